/- Part of the proof of a law. -/
import Derived.Test.YthnobngcipaljaaGreatDoorPk05
import Derived.OwnWalk
import Derived.Maps.AppendAt
set_option maxRecDepth 1000000
set_option maxHeartbeats 64000000
set_option linter.unusedVariables false
set_option linter.unusedSimpArgs false
set_option linter.constructorNameAsVariable false
open Go.Lib (hid)
namespace Go.Proofs
open Go.RowKit Go.Tw Go.Flow Tryz
attribute [local go_sem] Oper.semAt_some
theorem fzg06 {u:Type} {a b:u} (h:a=b:=by rw [hbb]; dsimp only; (try simp (discharger:=decide) only [Flow.eval_put_ne]); rw [Flow.Q0a (by (try simp only [Flow.size_put]); exact of_decide_eq_true rfl)]; try assumption):a=b:=h
theorem fze06 {u:Type} {a b:u} (h:a=b:=by rw [hbb]; dsimp only; (try simp (discharger:=decide) only [Flow.eval_put_ne]); rfl):a=b:=h
theorem Tryz.Y2k (w:World):(isAgg 156).run prog w=.ok true w:=by kernel_rfl
theorem Tryz.Q8o (w:World):(sizeOf 156).run prog w=.ok 2 w:=by kernel_rfl
theorem Y0w {a b:Int}:∀ u ∈ (#[Value.int .i64 a,.int .i64 b]:Array Value).toList,u.oneCell'=true:=by
 intro u hu;simp only [List.mem_cons,List.not_mem_nil,or_false] at hu
 rcases hu with rfl | rfl <;> rfl
theorem Z3h (w:World) (v:Value) (s:Q0b) (c d:Int) (t:Nat) (wt:Int) (hv:Q0i w v s) (ht:t < s.ships.length) (hc:0 <= c /\ c <= 1000000000000) (hd:0 <= d /\ d <= 1000000000000) (hw:0 <= wt /\ wt <= 1000000) (hs:0 <= ix s.ships t /\ ix s.ships t <= 1000) :
    Calls prog 166 #[.agg #[.int .i64 c,.int .i64 d],v,.int .i64 (t:Int),.int .i64 wt] w fun e w'=>e=.returned (.agg #[.int .i64 (c + wt),.int .i64 (d + wt * ix s.ships t)]) /\ Ext w w':=by
 obtain ⟨a,b,rfl,h2⟩:=hv;obtain ⟨A,Tq,rfl,-,-,Cf⟩:=h2.ships.opened;obtain ⟨B,Vq,rfl,-,-,-⟩:=h2.members.opened;obtain ⟨ba,oa,rfl,Xz⟩:=Cf t ht;have rJ:(t:Int) < s.ships.length:=by omega
 obtain ⟨dl,Y5⟩:∃ x,ix s.ships t=x:=⟨_,rfl⟩;rw [Y5] at Xz hs ⊢;have m1:0 <= wt * dl:=Int.mul_nonneg hw.1 hs.1;have m2:wt * dl <= 1000000 * 1000:=Int.mul_le_mul hw.2 hs.2 hs.1 (by omega)
 obtain ⟨pr,TX⟩:∃ x,wt * dl=x:=⟨_,rfl⟩;rw [TX] at m1 m2 ⊢;have Q1:IntKind.i64.wrap (c + wt)=c + wt:=Q2j _ (by omega) (by omega)
 have J9:IntKind.i64.wrap pr=pr:=Q2j _ (by omega) (by omega)
 have Yn:IntKind.i64.wrap (d + pr)=d + pr:=Q2j _ (by omega) (by omega)
 have T3:=hid Xz;clear h2 Cf Xz Y5 m1 m2 hc hd hw hs;go_enter func166,ntmps166;go_wp2;change Code.wp _ _ _ _ (((w.alloc (.cells #[.int .i64 c,.int .i64 d] 156)).alloc (.cells #[.int .i64 s.limit,.slice (some ⟨ba,oa,none⟩) s.ships.length Tq,.slice B s.members.length Vq] 34)).alloc (.cells #[.int .i64 0,.int .i64 0] 156));obtain ⟨W,Mq,k0,k1,k2,Rq,eW⟩:=X0c w 156 #[.int .i64 c,.int .i64 d] 34 #[.int .i64 s.limit,.slice (some ⟨ba,oa,none⟩) s.ships.length Tq,.slice B s.members.length Vq] 156 #[.int .i64 0,.int .i64 0];rw [Mq];clear Mq;have K0:=hid k0;have K1:=hid k1;have K2:=hid k2;obtain ⟨gc,Q0⟩:∃ x,w.heap.size=x:=⟨_,rfl⟩;have Bf:=hid Q0;rw [Q0] at K0 K1 K2 eW ⊢;clear k0 k1 k2 Q0;have Xq:=(Ext.refl W).drew;refine Flow.Q3q [.p,.w,.p,.p,.p,.w,.p,.p,.w,.p,.p,.w,.p,.p,.p,.last] [0,1,2,3,4,5,6,7,8,9,10,11,12,13,14,15] [[],[0],[],[0,1,2],[],[4],[],[],[7],[],[7,8,9],[7,8,9,10],[6,7,8,9,10,11],[4,5,6,7,8,9,10,11,12],[0,1,2,3,4,5,6,7,8,9,10,11,12,13],[0,1,2,3,4,5,6,7,8,9,10,11,12,13,14]] [15]
  [.c 0 (.pointer (some ⟨gc,0,none⟩)),.c 1 (.int .i64 c),.c 2 (.int .i64 wt),.c 3 (.int .i64 (c + wt)),.c 4 (.pointer (some ⟨gc,1,none⟩)),.c 5 (.int .i64 d),.c 6 (.int .i64 wt),.c 7 (.pointer (some ⟨gc + 1,1,none⟩)),.c 8 (.slice (some ⟨ba,oa,none⟩) s.ships.length Tq),.c 9 (.int .i64 (t:Int)),.c 10 (.pointer (some ⟨ba,oa + t,none⟩)),.c 11 (.int .i64 dl),.c 12 (.int .i64 pr),.c 13 (.int .i64 (d + pr)),.c 14 (.agg #[.int .i64 (c + wt),.int .i64 (d + pr)]),.none]
  [fun v w1 w'=>Blk w' (gc + 1 + 1) 156 #[.int .i64 (c + wt),.int .i64 (d + pr)] /\ (∀ n,n <= gc + 1 + 1 -> Below n w1 w')] (by kernel_rfl) rfl (by kernel_rfl) ⟨?g0,?g1,?g2,?g3,?g4,?g5,?g6,?g7,?g8,?g9,?g10,?g11,?g12,?g13,?g14,?g15,trivial⟩ ?post
 case g0 | g2 | g4 | g6 | g7 | g9=>
  intro v w1 hx;intro bb hbb;subst hbb;refine ⟨_,fun w=>?_,rfl⟩;go_simp
 case g1 | g5 | g8 | g11=>
  intro v w1 hx;(repeat intro (zq:v _=_));intro bb hbb;subst hbb;have n0:w1.cell? ⟨gc,0,none⟩=some (.int .i64 c):=(K0.out.ext (Xq.trans hx)).cell 0;have n1:w1.cell? ⟨gc,1,none⟩=some (.int .i64 d):=(K0.out.ext (Xq.trans hx)).cell 1;have n2:w1.cell? ⟨gc + 1,1,none⟩=some (.slice (some ⟨ba,oa,none⟩) s.ships.length Tq):=(K1.out.ext (Xq.trans hx)).cell 1;have n3:w1.cell? ⟨ba,oa + t,none⟩=some (.int .i64 dl):=(Rq.out.trans (Xq.trans hx)).cell T3.out;intro K hK;go_simp;exact hK _ _ (Ext.refl _) rfl
 case g3 | g10 | g12 | g13 | g14=>
  intro v w1 hx;(repeat intro (zq:v _=_));intro bb hbb;subst hbb;refine ⟨_,fun w=>?_,rfl⟩;go_simp
 case g15=>
  intro v w1 hx;(repeat intro (zq:v _=_));intro wl hT;obtain rfl:wl=w1:=hT;intro bb hbb;intro K hK;have o1:bb.eval (.tmp 8)=.pointer (some ⟨gc + 1 + 1,0,none⟩):=fze06
  have o2:bb.eval (.tmp 23)=.agg #[.int .i64 (c + wt),.int .i64 (d + pr)]:=fzg06
  exact Q1q (.tmp 8) (.tmp 23) _ rfl Q8o o1 o2 (K2.out.ext (Xq.trans hx)) rfl rfl Y0w (fun vv w' hb hl ho=>hK _ _ ⟨hb,hl⟩)
 case post =>
  intro v w1 hx;(iterate 15 intro (zq:v _=_));intro w2 hE;replace hE:(fun v w1 w'=>Blk w' (gc + 1 + 1) 156 #[.int .i64 (c + wt),.int .i64 (d + pr)] /\ (∀ n,n <= gc + 1 + 1 -> Below n w1 w')) v w1 w2:=hE;simp only [Flow.acts,Act.put];go_simp;obtain ⟨Nj,Wj⟩:=hE;have uj:Hid (Below w.heap.size W w2):=hid (Below.trans ((Xq.trans hx).mono (by have:=Bf.out; omega)) (Wj _ (by have:=Bf.out; omega)))
  clear hx Xq Wj;(repeat clear zq);go_wp2;refine bodyPost_ret (Q2e results166 rfl Nj Y2k Q8o) rfl ?_;exact ⟨rfl,Below.trans Rq.out uj.out⟩
theorem Z2q (l:List Bool) {k:Nat} (hk:k < l.length):countB (l.take (k + 1))=countB (l.take k) + if bx l k then 1 else 0:=by
 have h:l.take (k + 1)=l.take k ++ [bx l k]:=by rw [List.take_succ_eq_append_getElem hk]; simp [bx,hk]
 rw [h];unfold countB;rw [List.countP_append];cases bx l k <;> simp
def Q9a (s:Q0b) (l:List Bool) (k:Nat):Int:=((List.range k).map fun t=>if bx l t then ix s.ships t else 0).sum
theorem Y3t (s:Q0b) (l:List Bool) (k:Nat):Q9a s l (k + 1)=Q9a s l k + if bx l k then ix s.ships k else 0:=by
 unfold Q9a; rw [List.range_succ,List.map_append,List.sum_append]; simp
theorem J0v (s:Q0b) (l:List Bool):Q9a s l l.length=Q3y s l:=rfl
theorem Z4c {s:Q0b} (hS:Q0r s) (l:List Bool):∀ k,k <= s.ships.length -> 0 <= Q9a s l k /\ Q9a s l k <= 1000 * k
 | 0,_=>by simp [Q9a]
 | k + 1,h=>by
   have ih:=Z4c hS l k (by omega)
   have hd:=hS.delays (ix s.ships k) (by rw [Q5g (show k < s.ships.length by omega)]; exact List.getElem_mem _)
   rw [Y3t]
   split <;> omega
theorem J4u {a b A B:Int} (ha:0 <= a /\ a <= A) (hb:0 <= b /\ b <= B):0 <= a * b /\ a * b <= A * B :=
 ⟨Int.mul_nonneg ha.1 hb.1,Int.mul_le_mul ha.2 hb.2 hb.1 (by omega)⟩
theorem Z3c {w w':World} {O b k:Nat} {T:TypeId} {x y:Int} {v:Value} (hO:Blk w O T #[.int .i64 x,.int .i64 y]) (h:Off O w w') (hc:w.cell? ⟨b,k,none⟩=some v) (hv:∀ n,v ≠ .int .i64 n):w'.cell? ⟨b,k,none⟩=some v:=by
 have hb:=World.block_lt_of_cell? w _ hc;have hne:b ≠ O:=by
  rintro rfl;rw [hO.cell k] at hc
  rcases k with _ | _ | k
  . cases hc; exact hv _ rfl
  . cases hc; exact hv _ rfl
  . simp at hc
 have he:=h.2.2 b hb hne;unfold World.cell? at hc ⊢;rw [he]; exact hc
theorem Y1e (w:World) (v u:Value) (s:Q0b) (p:List Rul) (hv:Q0i w v s) (hu:Q0l w u p) (hS:Q0r s) (hp:Q0x s.hist p=0) :
    Calls prog 103 #[v,u] w fun e w'=>e=.returned (.agg #[.int .i64 (Q2u s p),.int .i64 (Q6q s p)]) /\ Ext w w':=by
 have h8:=hS.some;have h6:=hS.tides;have HS:=hid hS;have iz:Hid (Q5h s p countB s.members.length=Q2u s p):=hid (Y2v s p countB);have ia:Hid (Q5h s p (Q3y s) s.members.length=Q6q s p):=hid (Y2v s p (Q3y s));have iw:=hid (fun k hk=>Y0a hS p (f:=countB) (M:=6) (by omega) (X3y hS) k hk)
 have SX:=hid (fun k hk=>Y0a hS p (f:=Q3y s) (M:=6000) (by omega) (X8u hS) k hk)
 have pz:Hid (∀ (W:World) (v u:Value),Q0i W v s -> Q0l W u p -> Calls prog 109 #[v,u] W fun e w'=>∃ x,e=.returned x /\ Q4l w' x (Q3s s p) /\ Ext W w'):=hid (fun W v u h1 h2=>Q7q W v u s p h1 h2 hS hp);obtain ⟨a,b,rfl,h2⟩:=hv;obtain ⟨rv,rfl,hr⟩:=hu;obtain ⟨A,Tq,rfl,-,-,-⟩:=h2.ships.opened;obtain ⟨M,Vq,rfl,-,-,-⟩:=h2.members.opened;obtain ⟨R,Fq,rfl,-,-,-⟩:=hr.opened;have H2:=hid h2;have HR:=hid hr;clear h2 hr hS hp;go_enter func103,ntmps103;go_wp2_with fail;change Calls _ _ _ ((((w.alloc (.cells #[.int .i64 s.limit,.slice A s.ships.length Tq,.slice M s.members.length Vq] 34)).alloc (.cells #[.slice R p.length Fq] 38)).alloc (.cells #[.int .i64 0,.int .i64 0] 156)).alloc (.cells #[.int .i64 0,.int .i64 0] 156)) _;have k0:=Blk.made w 34 #[.int .i64 s.limit,.slice A s.ships.length Tq,.slice M s.members.length Vq];have x0:=Ext.box w (.cells #[.int .i64 s.limit,.slice A s.ships.length Tq,.slice M s.members.length Vq] 34);have es0:(w.alloc (.cells #[.int .i64 s.limit,.slice A s.ships.length Tq,.slice M s.members.length Vq] 34)).heap.size=w.heap.size + 1:=by simp
 obtain ⟨X0,V5⟩:∃ X,w.alloc (.cells #[.int .i64 s.limit,.slice A s.ships.length Tq,.slice M s.members.length Vq] 34)=X:=⟨_,rfl⟩;rw [V5] at k0 x0 es0 ⊢;clear V5;have k1:=Blk.made X0 38 #[.slice R p.length Fq];have x1:=Ext.box X0 (.cells #[.slice R p.length Fq] 38);have es1:(X0.alloc (.cells #[.slice R p.length Fq] 38)).heap.size=X0.heap.size + 1:=by simp
 obtain ⟨X1,U5⟩:∃ X,X0.alloc (.cells #[.slice R p.length Fq] 38)=X:=⟨_,rfl⟩;rw [U5] at k1 x1 es1 ⊢;clear U5;have k2:=Blk.made X1 156 #[.int .i64 0,.int .i64 0];have x2:=Ext.box X1 (.cells #[.int .i64 0,.int .i64 0] 156);have es2:(X1.alloc (.cells #[.int .i64 0,.int .i64 0] 156)).heap.size=X1.heap.size + 1:=by simp
 obtain ⟨X2,T5⟩:∃ X,X1.alloc (.cells #[.int .i64 0,.int .i64 0] 156)=X:=⟨_,rfl⟩;rw [T5] at k2 x2 es2 ⊢;clear T5;have k3:=Blk.made X2 156 #[.int .i64 0,.int .i64 0];have x3:=Ext.box X2 (.cells #[.int .i64 0,.int .i64 0] 156);have es3:(X2.alloc (.cells #[.int .i64 0,.int .i64 0] 156)).heap.size=X2.heap.size + 1:=by simp
 obtain ⟨X3,S5⟩:∃ X,X2.alloc (.cells #[.int .i64 0,.int .i64 0] 156)=X:=⟨_,rfl⟩;rw [S5] at k3 x3 es3 ⊢;clear S5;replace k0:=((k0.ext x1).ext x2).ext x3;replace k1:=(k1.ext x2).ext x3;replace k2:=k2.ext x3;have e0:X0.heap.size=w.heap.size + 1:=by omega
 have e1:X1.heap.size=w.heap.size + 1 + 1:=by omega
 have e2:X2.heap.size=w.heap.size + 1 + 1 + 1:=by omega
 have e3:X3.heap.size=w.heap.size + 1 + 1 + 1 + 1:=by omega
 rw [e0] at k1;rw [e1] at k2;rw [e2] at k3;have Rq:Hid (Ext w X3):=hid (Ext.trans (Ext.trans (Ext.trans (x0) x1) x2) x3);have eW:X3.heap.size=w.heap.size + 1 + 1 + 1 + 1:=e3;clear x0 es0 e0 x1 es1 e1 x2 es2 e2 x3 es3 e3;obtain ⟨W,Mq⟩:∃ W,X3=W:=⟨_,rfl⟩;rw [Mq] at Rq eW ⊢ k0 k1 k2 k3;clear Mq;refine (pz.out _ _ _ ⟨_,_,rfl,H2.out.ext Rq.out⟩ ⟨_,rfl,HR.out.ext Rq.out⟩).mono ?_;rintro e w5 ⟨x,rfl,hxb,yq⟩;have K0:=hid (k0.ext yq);have KR:=hid (k2.ext yq);have KO:=hid (k3.ext yq);have vq:=hid (Rq.out.trans yq);have qQ:Hid (w.heap.size + 1 + 1 + 1 + 1 <= w5.heap.size):=hid (by have:=yq.size; omega)
 obtain ⟨U,py,rfl,-,-,Ag⟩:=hxb.opened;rw [Q3c] at Ag ⊢;have m9:=hid Ag;obtain ⟨gs,Rj⟩:∃ x,w.heap.size=x:=⟨_,rfl⟩;have rx:=hid Rj;rw [Rj] at K0 KR KO qQ ⊢;clear k0 k1 k2 k3 yq hxb Ag Rj eW Rq;go_wp2
 go_loopw [14] (fun iv wr=>∃ i:Nat,i <= s.members.length /\ iv=.int .i64 i /\ Blk wr (gs + 1 + 1 + 1) 156 #[.int .i64 (Q5h s p countB i),.int .i64 (Q5h s p (Q3y s) i)] /\ Off (gs + 1 + 1 + 1) w5 wr) (fun iv _=>s.members.length - (intOf iv).toNat)
 case atStart=>exact ⟨0,Nat.zero_le _,rfl,KO.out,Off.refl _ _⟩
 case round =>
  obtain ⟨i,kz,rfl,Qz,ej⟩:=hrel;have zv:=hid Qz;have Qy:=hid ej;clear Qz ej
  by_cases Uq:i < s.members.length
  . obtain ⟨bu,ou,xk,rfl,-,qv,xj⟩:=m9.out i Uq
    rw [Q6b p Uq] at xj;have Dq:(Q0h p (Q0c s.members i)).length=s.ships.length:=by rw [Q1l,(HS.out.shaped i Uq).1]
    have LY:Hid (Q5h s p countB (i + 1)=Q5h s p countB i + Q0n s.members i * countB (Q0h p (Q0c s.members i))):=hid rfl;have J8:Hid (Q5h s p (Q3y s) (i + 1)=Q5h s p (Q3y s) i + Q0n s.members i * Q3y s (Q0h p (Q0c s.members i))):=hid rfl;have Gz:=iw.out i kz;have Sk:=SX.out i kz;have lq:=HS.out.weights i Uq;obtain ⟨bm,off,Sq,Jq,Cq,X,Y,Z,rq⟩:=Q3e (H2.out.members.ext vq.out) Uq;obtain ⟨bm',off',_,_,_,_,_,_,pQ⟩:=Q3e H2.out.members Uq;have Tk:bm < gs:=by
     have h1:=rq.addr;have h2:=pQ.addr;rw [h1] at h2;cases h2;have:=pQ.lt;have:=rx.out;omega
    have hA:=rq.addr;subst hA;have Mw:=hid rq.e1;obtain ⟨cl,hcl⟩:∃ x,Q0h p (Q0c s.members i)=x:=⟨_,rfl⟩;rw [hcl] at xj Dq LY J8;obtain ⟨wt,eZ⟩:∃ x,Q0n s.members i=x:=⟨_,rfl⟩;rw [eZ] at Mw LY J8 lq;obtain ⟨Ci,Af⟩:∃ x,Q5h s p countB i=x:=⟨_,rfl⟩;rw [Af] at Gz LY zv;obtain ⟨Di,zf⟩:∃ x,Q5h s p (Q3y s) i=x:=⟨_,rfl⟩;rw [zf] at Sk J8 zv;obtain ⟨Uk,Q7,rfl,-,-,L2⟩:=xj.opened;have lk:=hid L2;have Gq:=Z3c KO.out Qy.out qv (by intro n h; cases h)
    have V0:(i:Int) < s.members.length:=by omega
    have jw:=hid Dq;have vk:Hid (0 <= Ci /\ Ci <= 48000):=hid (by
     have:(i:Int) * (1000 * 6) <= 8 * (1000 * 6):=Int.mul_le_mul_of_nonneg_right (by omega) (by omega)
     omega)
    have ga:Hid (0 <= Di /\ Di <= 48000000):=hid (by
     have:(i:Int) * (1000 * 6000) <= 8 * (1000 * 6000):=Int.mul_le_mul_of_nonneg_right (by omega) (by omega)
     omega)
    have Ky:=hid lq;clear rq pQ qv xj hcl eZ Af zf L2 Gz Sk Dq lq
    go_light
    go_wp2;clear Gq
    go_loopw [21] (fun tv wr=>∃ t:Nat,t <= cl.length /\ tv=.int .i64 t /\ Blk wr (gs + 1 + 1 + 1) 156 #[.int .i64 (Ci + wt * countB (cl.take t)),.int .i64 (Di + wt * Q9a s cl t)] /\ Off (gs + 1 + 1 + 1) w5 wr) (fun tv _=>cl.length - (intOf tv).toNat)
    case atStart=>exact ⟨0,Nat.zero_le _,rfl,by simpa [countB,Q9a] using zv.out,Qy.out⟩
    case round =>
     obtain ⟨t,pw,rfl,Qz,qg⟩:=hrel;have E2:=hid Qz;have Zg:=hid qg;clear Qz qg
     by_cases Kx:t < cl.length
     . obtain ⟨bk,ok,rfl,-,Sw⟩:=lk.out t Kx
       replace Sw:=Z3c KO.out Zg.out Sw (by intro n h; cases h)
       have rJ:(t:Int) < cl.length:=by omega
       have rg:t < s.ships.length:=by have:=jw.out; omega
       have JY:=hid (Z2q cl Kx);have RX:=hid (Y3t s cl t);cases hq:bx cl t with
       | false =>
         rw [hq] at Sw JY RX;have HQ:Hid (countB (cl.take (t + 1))=countB (cl.take t) /\ Q9a s cl (t + 1)=Q9a s cl t):=hid ⟨by rw [JY.out]; simp,by rw [RX.out]; simp⟩
         clear hq;go_wp2;go_roundw
         case rel=>exact ⟨t + 1,by omega,by go_num,by rw [HQ.out.1,HQ.out.2]; exact E2.out,Zg.out⟩
         case measure=>simp [intOf]; omega
       | true =>
         rw [hq] at Sw JY RX;have HQ:Hid (countB (cl.take (t + 1))=countB (cl.take t) + 1 /\ Q9a s cl (t + 1)=Q9a s cl t + ix s.ships t):=hid ⟨by rw [JY.out]; simp,by rw [RX.out]; simp⟩
         have dZ:=HS.out.delays (ix s.ships t) (by rw [Q5g rg]; exact List.getElem_mem _)
         have h1:=J4u (b:=countB (cl.take t)) (B:=6) (show 0 <= wt /\ wt <= 1000 by have:=Ky.out; omega) (X3y HS.out _ (by rw [List.length_take]; omega))
         have h2:=Z4c HS.out cl t (by omega)
         have h3:=J4u (b:=Q9a s cl t) (B:=6000) (show 0 <= wt /\ wt <= 1000 by have:=Ky.out; omega) (by omega)
         have Lw:=hid (fun (W:World) (u:Value) (hu:Q0i W u s)=>Z3h W u s (Ci + wt * countB (cl.take t)) (Di + wt * Q9a s cl t) t wt hu rg (by have:=vk.out; omega) (by have:=ga.out; omega) (by have:=Ky.out; omega) dZ)
         have yf:Hid (Ci + wt * countB (cl.take (t + 1))=Ci + wt * countB (cl.take t) + wt):=hid (by rw [HQ.out.1,Int.mul_add]; omega)
         have fa:Hid (Di + wt * Q9a s cl (t + 1)=Di + wt * Q9a s cl t + wt * ix s.ships t):=hid (by rw [HQ.out.2,Int.mul_add]; omega)
         obtain ⟨C,hC⟩:∃ x,Ci + wt * countB (cl.take t)=x:=⟨_,rfl⟩;obtain ⟨D,hD⟩:∃ x,Di + wt * Q9a s cl t=x:=⟨_,rfl⟩;rw [hC] at Lw yf E2;rw [hD] at Lw fa E2;obtain ⟨dl,Y5⟩:∃ x,wt * ix s.ships t=x:=⟨_,rfl⟩;rw [Y5] at Lw fa;have Aw:=Zg.out.2.1;have Xn:Hid (wr.cell? ⟨bm,off + i * 5 + 1,none⟩=some (.int .i64 wt)):=hid ((Zg.out.1.cell (p:=⟨bm,off + i * 5 + 1,none⟩) (show bm < gs + 1 + 1 + 1 by omega)).trans Mw.out)
         have Fx:=hid (K0.out.below Zg.out.1 (by omega))
         have Ex:Hid (∀ W,Ext wr W -> Q0i W (.agg #[.int .i64 s.limit,.slice A s.ships.length Tq,.slice (some ⟨bm,off,none⟩) s.members.length Vq]) s) :=
          hid (fun W hW=>⟨_,_,rfl,H2.out.ext (Below.trans vq.out (Below.trans (Zg.out.1.mono (by have:=rx.out; omega)) (hW.mono (by have:=rx.out; have:=qQ.out; omega))))⟩)
         have Xq:=(Ext.refl wr).drew;have aa:Hid (gs + 1 + 1 + 1 + 1 <= wr.heap.size):=hid (by have:=qQ.out; omega)
         clear hq dZ h1 h2 h3 hC hD Y5 Aw
         go_light
         go_wp2;refine Flow.Q3q [.w,.w,.p,.p,.w,.p,.p,.p,.w,.w,.last] [0,1,2,3,4,5,6,7,8,9,10] [[],[],[],[],[3],[],[3,4,5],[3,4,5,6],[3,4,5,6,7],[0,1,2,3,4,5,6,7,8],[0,1,2,3,4,5,6,7,8,9]] [10]
          [.c 0 (.agg #[.int .i64 C,.int .i64 D]),.c 1 (.agg #[.int .i64 s.limit,.slice A s.ships.length Tq,.slice (some ⟨bm,off,none⟩) s.members.length Vq]),.c 2 (.int .i64 (t:Int)),.c 3 (.pointer (some ⟨gs,2,none⟩)),.c 4 (.slice (some ⟨bm,off,none⟩) s.members.length Vq),.c 5 (.int .i64 (i:Int)),.c 6 (.pointer (some ⟨bm,off + i * 5,none⟩)),.c 7 (.pointer (some ⟨bm,off + i * 5 + 1,none⟩)),.c 8 (.int .i64 wt),.c 9 (.agg #[.int .i64 (C + wt),.int .i64 (D + dl)]),.none]
          [fun v w1 w'=>Blk w' (gs + 1 + 1 + 1) 156 #[.int .i64 (C + wt),.int .i64 (D + dl)] /\ (∀ n,n <= gs + 1 + 1 + 1 -> Below n w1 w') /\ (∀ k,k ≠ gs + 1 + 1 + 1 -> w'.heap[k]?=w1.heap[k]?)] (by kernel_rfl) rfl (by kernel_rfl) ⟨?g0,?g1,?g2,?g3,?g4,?g5,?g6,?g7,?g8,?g9,?g10,trivial⟩ ?post
         case g0=>
          intro v w1 hx;intro bb hbb;intro K hK;have o1:bb.eval (.tmp 5)=.pointer (some ⟨gs + 1 + 1 + 1,0,none⟩):=fze06
          exact Q0k (.tmp 5) _ rfl Y2k Q8o o1 (E2.out.ext (Xq.trans hx)) rfl (hK _ _ (Ext.refl _) rfl)
         case g1=>
          intro v w1 hx;intro bb hbb;intro K hK;have o1:bb.eval (.tmp 2)=.pointer (some ⟨gs,0,none⟩):=fze06
          exact Q0k (.tmp 2) _ rfl X7u Q8v o1 (Fx.out.ext (Xq.trans hx)) rfl (hK _ _ (Ext.refl _) rfl)
         case g2 | g3 | g5=>
          intro v w1 hx;intro bb hbb;subst hbb;refine ⟨_,fun w=>?_,rfl⟩;go_simp
         case g4 | g8=>
          intro v w1 hx;(repeat intro (zq:v _=_));intro bb hbb;subst hbb;have n0:w1.cell? ⟨gs,2,none⟩=some (.slice (some ⟨bm,off,none⟩) s.members.length Vq):=(Fx.out.ext (Xq.trans hx)).cell 2;have n1:w1.cell? ⟨bm,off + i * 5 + 1,none⟩=some (.int .i64 wt):=(Xq.trans hx).cell Xn.out;intro K hK;go_simp;exact hK _ _ (Ext.refl _) rfl
         case g6 | g7=>
          intro v w1 hx;(repeat intro (zq:v _=_));intro bb hbb;subst hbb;refine ⟨_,fun w=>?_,rfl⟩;go_simp
         case g9=>
          intro v w1 hx;(repeat intro (zq:v _=_));intro bb hbb;subst hbb;intro K hK;go_simp;refine Q0e (Lw.out w1 _ (Ex.out w1 (Xq.trans hx))) ?_;rintro e w2 ⟨rfl,Nq⟩;exact ⟨_,rfl,hK _ _ Nq rfl⟩
         case g10=>
          intro v w1 hx;(repeat intro (zq:v _=_));intro wl hT;obtain rfl:wl=w1:=hT;intro bb hbb;intro K hK;have o1:bb.eval (.tmp 5)=.pointer (some ⟨gs + 1 + 1 + 1,0,none⟩):=fze06
          have o2:bb.eval (.tmp 36)=.agg #[.int .i64 (C + wt),.int .i64 (D + dl)]:=fzg06
          exact Q1q (.tmp 5) (.tmp 36) _ rfl Q8o o1 o2 (E2.out.ext (Xq.trans hx)) rfl rfl Y0w (fun vv w' hb hl ho=>hK _ _ ⟨hb,hl,ho⟩)
         case post =>
          intro v w1 hx;(iterate 10 intro (zq:v _=_));intro w2 hE;replace hE:(fun v w1 w'=>Blk w' (gs + 1 + 1 + 1) 156 #[.int .i64 (C + wt),.int .i64 (D + dl)] /\ (∀ n,n <= gs + 1 + 1 + 1 -> Below n w1 w') /\ (∀ k,k ≠ gs + 1 + 1 + 1 -> w'.heap[k]?=w1.heap[k]?)) v w1 w2:=hE;simp only [Flow.acts,Act.put];go_simp;obtain ⟨Nj,Wj,cj⟩:=hE;have Zq:=Xq.trans hx;have O0:Off (gs + 1 + 1 + 1) w5 w2:=⟨Below.trans Zg.out.1 (Below.trans (Zq.mono (by have:=aa.out; omega)) (Wj _ (Nat.le_refl _))),Nat.le_trans Zg.out.2.1 (Nat.le_trans Zq.size (Wj _ (Nat.le_refl _)).size),fun b hb hne=>by
           rw [cj b hne,Below.block Zq b (by have:=Zg.out.2.1; omega)]; exact Zg.out.2.2 b hb hne⟩
          have sg:=hid Nj;have R5:=hid O0;clear hx Xq Nj Wj cj O0 Zq;(repeat clear zq);go_wp2;go_roundw
          case rel=>exact ⟨t + 1,by omega,by go_num,by rw [yf.out,fa.out]; exact sg.out,R5.out⟩
          case measure=>simp [intOf]; omega
     . have jZ:t=cl.length:=by omega
       subst jZ;have zk:=E2.out;rw [List.take_length,J0v,<- LY.out,<- J8.out] at zk;have O1:=hid zk;clear zk;go_wp2;go_roundw
       case rel=>exact ⟨i + 1,by omega,by go_num,O1.out,Zg.out⟩
       case measure=>simp [intOf]; omega
  . have pa:i=s.members.length:=by omega
    subst pa;have yz:=zv.out;have Oy:=KR.out.below Qy.out.1 (by omega)
    rw [iz.out,ia.out] at yz;go_wp2_with (first | (refine Q9g rfl _ _ rfl Y2k Q8o rfl yz rfl ?_) | (refine Q0t rfl _ _ _ rfl Q8o rfl rfl Oy rfl rfl Y0w ?_; intro w9 Nj Wj cj))
    refine bodyPost_ret (Q2e results103 rfl Nj Y2k Q8o) rfl ?_;exact ⟨rfl,Below.trans vq.out (Below.trans (Qy.out.1.mono (by have:=rx.out; omega)) (Wj w.heap.size (by have:=rx.out; omega)))⟩
theorem Q4z {s:Q0b} {p:List Rul} (h:Q1k s p=0):Q0r s /\ Q0x s.hist p=0:=by
 unfold Q1k at h
 by_cases he:s.err=0
 . rw [if_neg (fun hn=>hn he)] at h; exact ⟨Q0r.of he,h⟩
 . rw [if_pos he] at h; exact absurd h he
def Z1p (s:Q0b) (p:List Rul):List Int:=if Q1k s p=0 then Q1w s p else []
def X0h (s:Q0b) (p:List Rul):Int:=if Q1k s p=0 then Q2u s p else 0
def Y9e (s:Q0b) (p:List Rul):Int:=if Q1k s p=0 then Q6q s p else 0
theorem J0a (w:World):Q0g w (.slice none 0 0) []:=Go.Tw.Rows.nil _ _ _
theorem Y1p (w:World) (x y:Value):(Instr.field 156 (.agg #[x,y]) 0).run prog w=.ok x w:=by kernel_rfl
theorem Y1q (w:World) (x y:Value):(Instr.field 156 (.agg #[x,y]) 1).run prog w=.ok y w:=by kernel_rfl
attribute [local go_sem ↓] Y1p Y1q
theorem X3z (w:World) (v u:Value) (s:Q0b) (p:List Rul) (hv:Q0i w v s) (hu:Q0l w u p) (hs:Q2r s) (hp:p.length <= 1000) :
    Calls prog 33 #[v,u] w fun e w'=>∃ x,e=.returned (.tuple #[x,.int .i64 (Q1k s p)]) /\ Q0g w' x (Z1p s p) /\ Ext w w':=by
 obtain ⟨a,b,rfl,h2⟩:=hv;obtain ⟨rv,rfl,hr⟩:=hu;obtain ⟨A,Tq,rfl,-,-,-⟩:=h2.ships.opened;obtain ⟨B,Vq,rfl,-,-,-⟩:=h2.members.opened;obtain ⟨R,Fq,rfl,-,-,-⟩:=hr.opened;have H2:=hid h2;have HR:=hid hr;have HS:=hid hs;clear h2 hr hs;go_enter func33,ntmps33;go_wp2_with fail;change Calls _ _ _ ((w.alloc (.cells #[.int .i64 s.limit,.slice A s.ships.length Tq,.slice B s.members.length Vq] 34)).alloc (.cells #[.slice R p.length Fq] 38)) _;obtain ⟨W,Mq,k0,k1,Rq,eW⟩:=Q4p w 34 #[.int .i64 s.limit,.slice A s.ships.length Tq,.slice B s.members.length Vq] 38 #[.slice R p.length Fq];rw [Mq];clear Mq;have K0:=hid k0;have K1:=hid k1;clear k0 k1;refine (Q2g _ _ _ s p ⟨_,_,rfl,H2.out.ext Rq.out⟩ ⟨_,rfl,HR.out.ext Rq.out⟩ HS.out hp).mono ?_;rintro e w5 ⟨rfl,yq⟩;have vq:=hid (Rq.out.trans yq);have Fx:=hid (K0.out.ext yq);have vz:=hid (K1.out.ext yq)
 by_cases he:Q1k s p=0
 . have HV:=hid (Q4z he)
   have HF:Hid (Z1p s p=Q1w s p):=hid (if_pos he);have Nz:=hid he;have Vx:=hid he;have hne:(Q1k s p != 0)=false:=by simp [he]
   obtain ⟨E,hE⟩:∃ E,Q1k s p=E:=⟨_,rfl⟩;have Pz:Hid (∀ W,Ext w5 W -> Q0i W (.agg #[.int .i64 s.limit,.slice A s.ships.length Tq,.slice B s.members.length Vq]) s):=hid (fun W hW=>⟨_,_,rfl,H2.out.ext (vq.out.trans hW)⟩);have Wg:Hid (∀ W,Ext w5 W -> Q0l W (.agg #[.slice R p.length Fq]) p):=hid (fun W hW=>⟨_,rfl,HR.out.ext (vq.out.trans hW)⟩);rw [hE] at hne Nz ⊢;rw [Nz.out];clear he hE yq;have Xq:=(Ext.refl w5).drew;go_wp2;refine Flow.Q1h [.w,.w,.w,.w,.w,.p,.p] [0,1,2,3,4,5,6] [[],[],[],[1,2],[0,3],[0,1,2,3,4],[0,1,2,3,4,5]]
    [.c 0 (.agg #[.int .i64 s.limit,.slice A s.ships.length Tq,.slice B s.members.length Vq]),.c 1 (.agg #[.int .i64 s.limit,.slice A s.ships.length Tq,.slice B s.members.length Vq]),.c 2 (.agg #[.slice R p.length Fq]),⟨fun v wz=>(fun v w'=>Q4l w' (v 3) (Q3s s p)) v wz,by intro v a b hx h; exact Q4l.ext h hx⟩,⟨fun v wz=>(fun v w'=>Q0g w' (v 4) (Q1w s p)) v wz,by intro v a b hx h; exact Q0g.ext h hx⟩,.is 5 (fun v=>v 4),.c 6 (.int .i64 0)]
    (by kernel_rfl) rfl (by kernel_rfl) ⟨?g0,?g1,?g2,?g3,?g4,?g5,?g6,trivial⟩ ?post
   case g0 | g1=>
    intro v w1 hx;intro bb hbb;intro K hK;have o1:bb.eval (.tmp 2)=.pointer (some ⟨w.heap.size,0,none⟩):=fze06
    exact Q0k (.tmp 2) _ rfl X7u Q8v o1 (Fx.out.ext (Xq.trans hx)) rfl (hK _ _ (Ext.refl _) rfl)
   case g2=>
    intro v w1 hx;intro bb hbb;intro K hK;have o1:bb.eval (.tmp 3)=.pointer (some ⟨w.heap.size + 1,0,none⟩):=fze06
    exact Q0k (.tmp 3) _ rfl Q5z Q2w o1 (vz.out.ext (Xq.trans hx)) rfl (hK _ _ (Ext.refl _) rfl)
   case g3=>
    intro v w1 hx;(repeat intro (zq:v _=_));intro bb hbb;subst hbb;intro K hK;go_simp;refine Q0e (Q7q w1 _ _ s p (Pz.out w1 (Xq.trans hx)) (Wg.out w1 (Xq.trans hx)) HV.out.1 HV.out.2) ?_;rintro e w2 ⟨x,rfl,h1,Nq⟩;exact ⟨_,rfl,hK _ _ Nq h1⟩
   case g4=>
    intro v w1 hx (q0:v 0=_) (q3:(fun v w'=>Q4l w' (v 3) (Q3s s p)) v w1);intro bb hbb;subst hbb;intro K hK;go_simp;refine Q0e (J4f w1 _ _ s p (Pz.out w1 (Xq.trans hx)) q3 HV.out.1) ?_;rintro e w2 ⟨x,rfl,h1,Nq⟩;exact ⟨_,rfl,hK _ _ Nq h1⟩
   case g5=>
    intro v w1 hx (q0:v 0=_) (q1:v 1=_) (q2:v 2=_) _ _;intro bb hbb;subst hbb;refine ⟨_,fun w=>?_,rfl⟩;go_simp
   case g6=>
    intro v w1 hx (q0:v 0=_) (q1:v 1=_) (q2:v 2=_) _ _ (q5:v 5=v 4);intro bb hbb;subst hbb;refine ⟨_,fun w=>?_,rfl⟩;go_simp
   case post =>
    intro v w1 hx;(iterate 3 intro (zq:v _=_));intro (q3:(fun v w'=>Q4l w' (v 3) (Q3s s p)) v w1) (q4:(fun v w'=>Q0g w' (v 4) (Q1w s p)) v w1) (q5:v 5=v 4);(iterate 1 intro (zq:v _=_));simp only [Flow.All,Flow.acts,Act.put];go_simp;have kx:=hid (vq.out.trans (Xq.trans hx));have HQ:Hid (Q0g w1 (v 4) (Q1w s p)):=hid q4;clear hx Xq q3 q4 q5;(repeat clear zq);go_wp2;go_ret2;exact ⟨v 4,by rw [Vx.out]; rfl,by rw [HF.out]; exact HQ.out,kx.out⟩
 . have HF:Hid (Z1p s p=[]):=hid (if_neg he)
   have hne:(Q1k s p != 0)=true:=by simp [he]
   obtain ⟨E,hE⟩:∃ E,Q1k s p=E:=⟨_,rfl⟩;have Vx:=hid hE;rw [hE] at hne ⊢;clear he hE yq;go_wp2;go_ret2;exact ⟨_,by rw [Vx.out]; rfl,by rw [HF.out]; exact J0a _,vq.out⟩
theorem X4g (w:World) (v u:Value) (s:Q0b) (p:List Rul) (hv:Q0i w v s) (hu:Q0l w u p) (hs:Q2r s) (hp:p.length <= 1000) :
    Calls prog 37 #[v,u] w fun e w'=>e=.returned (.tuple #[.int .i64 (X0h s p),.int .i64 (Q1k s p)]) /\ Ext w w':=by
 obtain ⟨a,b,rfl,h2⟩:=hv;obtain ⟨rv,rfl,hr⟩:=hu;obtain ⟨A,Tq,rfl,-,-,-⟩:=h2.ships.opened;obtain ⟨B,Vq,rfl,-,-,-⟩:=h2.members.opened;obtain ⟨R,Fq,rfl,-,-,-⟩:=hr.opened;have H2:=hid h2;have HR:=hid hr;have HS:=hid hs;clear h2 hr hs;go_enter func37,ntmps37;go_wp2_with fail;change Calls _ _ _ ((w.alloc (.cells #[.int .i64 s.limit,.slice A s.ships.length Tq,.slice B s.members.length Vq] 34)).alloc (.cells #[.slice R p.length Fq] 38)) _;obtain ⟨W,Mq,k0,k1,Rq,eW⟩:=Q4p w 34 #[.int .i64 s.limit,.slice A s.ships.length Tq,.slice B s.members.length Vq] 38 #[.slice R p.length Fq];rw [Mq];clear Mq;have K0:=hid k0;have K1:=hid k1;clear k0 k1;refine (Q2g _ _ _ s p ⟨_,_,rfl,H2.out.ext Rq.out⟩ ⟨_,rfl,HR.out.ext Rq.out⟩ HS.out hp).mono ?_;rintro e w5 ⟨rfl,yq⟩;have vq:=hid (Rq.out.trans yq);have Fx:=hid (K0.out.ext yq);have vz:=hid (K1.out.ext yq)
 by_cases he:Q1k s p=0
 . have HV:=hid (Q4z he)
   have HF:Hid (X0h s p=Q2u s p):=hid (if_pos he);have Nz:=hid he;have Vx:=hid he;have hne:(Q1k s p != 0)=false:=by simp [he]
   obtain ⟨E,hE⟩:∃ E,Q1k s p=E:=⟨_,rfl⟩;have Pz:Hid (∀ W,Ext w5 W -> Q0i W (.agg #[.int .i64 s.limit,.slice A s.ships.length Tq,.slice B s.members.length Vq]) s):=hid (fun W hW=>⟨_,_,rfl,H2.out.ext (vq.out.trans hW)⟩);have Wg:Hid (∀ W,Ext w5 W -> Q0l W (.agg #[.slice R p.length Fq]) p):=hid (fun W hW=>⟨_,rfl,HR.out.ext (vq.out.trans hW)⟩);rw [hE] at hne Nz ⊢;rw [Nz.out];have c0:=(Fx.out).cell 0;have c1:=(Fx.out).cell 1;have c2:=(Fx.out).cell 2;simp only [Go.Tw.gA,Go.Tw.gB,Go.Tw.gC] at c0 c1 c2;have d0:=(vz.out).cell 0;simp only [Go.Tw.gA,Go.Tw.gB] at d0;clear he hE yq;go_wp2_with (go_at_call 103; refine (Y1e _ _ _ s p (Pz.out _ (Ext.refl _)) (Wg.out _ (Ext.refl _)) HV.out.1 HV.out.2).mono ?_; rintro e w6 ⟨rfl,Mj⟩);go_ret2;exact ⟨by rw [HF.out,Vx.out]; rfl,vq.out.trans Mj⟩
 . have HF:Hid (X0h s p=0):=hid (if_neg he)
   have hne:(Q1k s p != 0)=true:=by simp [he]
   obtain ⟨E,hE⟩:∃ E,Q1k s p=E:=⟨_,rfl⟩;have Vx:=hid hE;rw [hE] at hne ⊢;clear he hE yq;go_wp2;go_ret2;exact ⟨by rw [HF.out,Vx.out]; rfl,vq.out⟩
theorem Y3s (w:World) (v u:Value) (s:Q0b) (p:List Rul) (hv:Q0i w v s) (hu:Q0l w u p) (hs:Q2r s) (hp:p.length <= 1000) :
    Calls prog 38 #[v,u] w fun e w'=>e=.returned (.tuple #[.int .i64 (Y9e s p),.int .i64 (Q1k s p)]) /\ Ext w w':=by
 obtain ⟨a,b,rfl,h2⟩:=hv;obtain ⟨rv,rfl,hr⟩:=hu;obtain ⟨A,Tq,rfl,-,-,-⟩:=h2.ships.opened;obtain ⟨B,Vq,rfl,-,-,-⟩:=h2.members.opened;obtain ⟨R,Fq,rfl,-,-,-⟩:=hr.opened;have H2:=hid h2;have HR:=hid hr;have HS:=hid hs;clear h2 hr hs;go_enter func38,ntmps38;go_wp2_with fail;change Calls _ _ _ ((w.alloc (.cells #[.int .i64 s.limit,.slice A s.ships.length Tq,.slice B s.members.length Vq] 34)).alloc (.cells #[.slice R p.length Fq] 38)) _;obtain ⟨W,Mq,k0,k1,Rq,eW⟩:=Q4p w 34 #[.int .i64 s.limit,.slice A s.ships.length Tq,.slice B s.members.length Vq] 38 #[.slice R p.length Fq];rw [Mq];clear Mq;have K0:=hid k0;have K1:=hid k1;clear k0 k1;refine (Q2g _ _ _ s p ⟨_,_,rfl,H2.out.ext Rq.out⟩ ⟨_,rfl,HR.out.ext Rq.out⟩ HS.out hp).mono ?_;rintro e w5 ⟨rfl,yq⟩;have vq:=hid (Rq.out.trans yq);have Fx:=hid (K0.out.ext yq);have vz:=hid (K1.out.ext yq)
 by_cases he:Q1k s p=0
 . have HV:=hid (Q4z he)
   have HF:Hid (Y9e s p=Q6q s p):=hid (if_pos he);have Nz:=hid he;have Vx:=hid he;have hne:(Q1k s p != 0)=false:=by simp [he]
   obtain ⟨E,hE⟩:∃ E,Q1k s p=E:=⟨_,rfl⟩;have Pz:Hid (∀ W,Ext w5 W -> Q0i W (.agg #[.int .i64 s.limit,.slice A s.ships.length Tq,.slice B s.members.length Vq]) s):=hid (fun W hW=>⟨_,_,rfl,H2.out.ext (vq.out.trans hW)⟩);have Wg:Hid (∀ W,Ext w5 W -> Q0l W (.agg #[.slice R p.length Fq]) p):=hid (fun W hW=>⟨_,rfl,HR.out.ext (vq.out.trans hW)⟩);rw [hE] at hne Nz ⊢;rw [Nz.out];have c0:=(Fx.out).cell 0;have c1:=(Fx.out).cell 1;have c2:=(Fx.out).cell 2;simp only [Go.Tw.gA,Go.Tw.gB,Go.Tw.gC] at c0 c1 c2;have d0:=(vz.out).cell 0;simp only [Go.Tw.gA,Go.Tw.gB] at d0;clear he hE yq;go_wp2_with (go_at_call 103; refine (Y1e _ _ _ s p (Pz.out _ (Ext.refl _)) (Wg.out _ (Ext.refl _)) HV.out.1 HV.out.2).mono ?_; rintro e w6 ⟨rfl,Mj⟩);go_ret2;exact ⟨by rw [HF.out,Vx.out]; rfl,vq.out.trans Mj⟩
 . have HF:Hid (Y9e s p=0):=hid (if_neg he)
   have hne:(Q1k s p != 0)=true:=by simp [he]
   obtain ⟨E,hE⟩:∃ E,Q1k s p=E:=⟨_,rfl⟩;have Vx:=hid hE;rw [hE] at hne ⊢;clear he hE yq;go_wp2;go_ret2;exact ⟨by rw [HF.out,Vx.out]; rfl,vq.out⟩
end Go.Proofs
namespace Go.Proofs
open Go.RowKit Go.Tw Go.Flow Tryz
attribute [local go_sem] Oper.semAt_some
theorem Z6o (W:World) (v:Value):Calls prog 115 #[v] W fun e W'=>e=.returned v /\ W=W':=by
 go_enter func115,ntmps115;go_wp2;go_ret;exact ⟨rfl,rfl⟩
theorem Tryz.J2k:(prog.info? 22).map (fun i=>(i.zero,i.size,i.bytes))=some (some (.slice none 0 0),1,24):=by kernel_rfl
theorem Z6z (ll:List (List Int)) {k:Nat} (hk:k < ll.length):ll.take (k + 1)=ll.take k ++ [ll.getD k []]:=by
 rw [List.take_succ_eq_append_getElem hk,Q0u _ hk]
theorem Y2e (w:World) (v:Value) (ll:List (List Int)) (hv:Q3z w v ll) (Uv:ll.length <= 4096) :
    Calls prog 114 #[v,.func (.func 115) #[] #[]] w fun e w'=>∃ x,e=.returned x /\ Q3z w' x ll /\ Ext w w':=by
 obtain ⟨i0,hi,dq,fq,Zj⟩:=info_parts J2k;obtain ⟨A,Qq,rfl,hl,Kq,hc⟩:=hv.opened;have HC:=hid hc;clear hv hc;go_enter func114,ntmps114;go_wp2
 go_loopw [5,10] (fun o i wr=>∃ (k:Nat) (vs:List Value),k <= ll.length /\ i=.int .i64 k /\ Q0q wr w.heap.size 22 idV o vs /\ Reads w vs (ll.take k) /\ Ext w wr) (fun _ i _=>ll.length - (intOf i).toNat)
 case atStart=>exact ⟨0,[],Nat.zero_le _,rfl,Q0q.nil _ _ _ _,⟨rfl,fun i hi=>by simp at hi⟩,Ext.refl _⟩
 case round =>
  obtain ⟨k,vs,hk,rfl,Yq,Zb,hx⟩:=hrel;have Dq:vs.length=k:=by have:=Zb.1; rw [List.length_take] at this; omega
  have Yb:=hid Zb;clear Zb
  by_cases Uq:k < ll.length
  . obtain ⟨b,off,m,rfl,-,Wq,hm⟩:=HC.out k Uq
    have cZ:=hid (Yb.out.snoc hm);have az:=hid (Z6z ll Uq);obtain ⟨Am,tk,rfl,-,-,-⟩:=hm.opened;obtain ⟨n,hn⟩:∃ n,(ll.getD k []).length=n:=⟨_,rfl⟩;rw [hn] at cZ Wq;replace Wq:=hx.cell Wq;have Y7:=hid (Z6o wr (.slice Am n tk));have Bw:vs.length <= 4096:=by omega
    clear Dq hm hn;go_wp2_with (first | (refine Y7.out.mono ?_; rintro e w9 ⟨rfl,rfl⟩) | (at_builtin; refine wpList_append_own _ rfl _ _ 72 rfl (w.heap.size) 22 i0 (.slice none 0 0) 1 24 underlying72 hi dq fq Zj rfl (by decide) _ _ _ rfl (World.ownsRow.alloc Yq _) ⟨wr.heap.size,0,none⟩ 1 1 [.slice Am n tk] rfl rfl ?_ ?_ ?_ ?_ ?_ ?_; exact Q5y _ _ _; (focus (simp [Value.oneCell'])); (focus (unfold maxLen; omega)); (focus omega); (focus (have:=hx.size; simp at this ⊢; omega)); intro v' w1 Oq Pq _))
    have hx':=Q3r hx Yq (Nat.le_refl _) Pq;go_wp2;go_roundw
    case rel=>exact ⟨k + 1,vs ++ [.slice Am n tk],by omega,by go_num,Q0q.snoc (x:=Value.slice Am n tk) Oq,by rw [az.out]; exact cZ.out,hx'⟩
    case measure=>simp [intOf]; omega
  . have HE:Hid (ll.take k=ll):=hid (List.take_of_length_le (by omega))
    rw [HE.out] at Yb;have Rz:=hid Yq;clear Yq Dq;go_wp2;go_ret;exact ⟨_,rfl,Rz.out.J8q (Yb.out.ext hx) hl,hx⟩
def J3k (s:Q0b):List (List Int):=if s.err=0 then s.hist else []
theorem Z5p (w:World):Q3z w (.slice none 0 0) []:=Go.Tw.Rows.nil _ _ _
theorem J5d {s:Q0b} (hS:Q0r s):s.hist.length <= 4096:=by
 have hpos:∀ (h:List Int) (row:List (List Int)) n,Q2b h row n <= n:=fun h row n=>(posB h row n).1;have Zv:∀ (h:List Int) (row:List (List Int)),(Q7d h row).length <= row.length + 1:=fun h row=>by
  unfold Q7d;have:=hpos h row row.length;dsimp only
  split
  . omega
  . simp only [List.length_append,List.length_take,List.length_drop,List.length_cons,List.length_nil]; omega
 have C7:∀ t i,(s.Q5v t i).length <= i:=by
  intro t i
  induction i with
  | zero=>exact Nat.le_refl _
  | succ i ih =>
    have:=Zv ((Q0c s.members i).take (t + 1)) (s.Q5v t i);show (Q7d ((Q0c s.members i).take (t + 1)) (s.Q5v t i)).length <= _;omega
 have mq:∀ n,(s.Q5t n).length <= n * s.members.length:=by
  intro n
  induction n with
  | zero=>exact Nat.zero_le _
  | succ n ih =>
    show (s.Q5t n ++ s.Q5v n s.members.length).length <= _;have:=C7 n s.members.length;rw [List.length_append,Nat.add_mul,Nat.one_mul];omega
 have h1:=mq s.ships.length;have h2:s.ships.length * s.members.length <= 6 * 8:=Nat.mul_le_mul hS.tides.2 hS.some.2;show (s.Q5t s.ships.length).length <= _;omega
theorem Y1i (w:World) (v:Value) (s:Q0b) (hv:Q0i w v s) (hs:Q2r s) :
    Calls prog 42 #[v] w fun e w'=>∃ x,e=.returned (.tuple #[x,.int .i64 s.err]) /\ Q3z w' x (J3k s) /\ Ext w w':=by
 obtain ⟨a,b,rfl,h2⟩:=hv;obtain ⟨A,Tq,rfl,-,-,-⟩:=h2.ships.opened;obtain ⟨B,Vq,rfl,-,-,-⟩:=h2.members.opened;have H2:=hid h2;have HS:=hid hs;clear h2 hs;go_enter func42,ntmps42;go_wp2_with fail;change Calls _ _ _ (w.alloc (.cells #[.int .i64 s.limit,.slice A s.ships.length Tq,.slice B s.members.length Vq] 34)) _;obtain ⟨W,Mq,k0,Rq,eW⟩:=Q2q w 34 #[.int .i64 s.limit,.slice A s.ships.length Tq,.slice B s.members.length Vq];rw [Mq];clear Mq;have K0:=hid k0;clear k0;refine (Q2k _ _ s ⟨_,_,rfl,H2.out.ext Rq.out⟩ HS.out).mono ?_;rintro e w5 ⟨rfl,yq⟩;have vq:=hid (Rq.out.trans yq);have Fx:=hid (K0.out.ext yq)
 by_cases he:s.err=0
 . have HV:=hid (Q0r.of he)
   have HF:Hid (J3k s=s.hist):=hid (if_pos he);have Vx:=hid he;have hne:(s.err != 0)=false:=by simp [he]
   obtain ⟨E,hE⟩:∃ E,s.err=E:=⟨_,rfl⟩;have Nz:=hid (hE.symm.trans he);have c0:=(Fx.out).cell 0;have c1:=(Fx.out).cell 1;have c2:=(Fx.out).cell 2;simp only [Go.Tw.gA,Go.Tw.gB,Go.Tw.gC] at c0 c1 c2;rw [hE] at hne ⊢;rw [Nz.out];clear he hE yq;go_wp2_with (first | (go_at_call 99; refine (Q8i _ _ s ⟨_,_,rfl,H2.out.ext vq.out⟩ HV.out).mono ?_; rintro e w6 ⟨x,rfl,Xb,Mj⟩; have Wn:=hid Xb; obtain ⟨A6,c6,rfl,-,-,-⟩:=Xb.opened; clear Xb) | (go_at_call 114; refine (Y2e _ _ s.hist Wn.out (J5d HV.out)).mono ?_; rintro e w7 ⟨x,rfl,Vn,V3⟩))
   go_ret2;exact ⟨_,by rw [Vx.out]; rfl,by rw [HF.out]; exact Vn,vq.out.trans (Mj.trans V3)⟩
 . have HF:Hid (J3k s=[]):=hid (if_neg he)
   have hne:(s.err != 0)=true:=by simp [he]
   obtain ⟨E,hE⟩:∃ E,s.err=E:=⟨_,rfl⟩;have Vx:=hid hE;rw [hE] at hne ⊢;clear he hE yq;go_wp2;go_ret2;exact ⟨_,by rw [Vx.out]; rfl,by rw [HF.out]; exact Z5p _,vq.out⟩
end Go.Proofs
namespace Go.Proofs
open Go.RowKit Go.Tw Go.Flow
def Q5r (s:Q0b) (n:Int):Int:=Q0o [s.err,Q0s (Q7f s n) 10]
theorem X5j {s:Q0b} {n:Int} (h:Q5r s n=0):Q0r s /\ 0 <= n /\ n < s.members.length:=by
 unfold Q5r Q0o at h
 by_cases he:s.err=0
 . rw [if_pos he] at h
   refine ⟨Q0r.of he,?_⟩;unfold Q0o Q7f Q0s at h
   by_cases h0:n < 0 <;> by_cases h1:(s.members.length:Int) <= n <;> simp [h0,h1] at h ⊢ <;> omega
 . rw [if_neg he] at h; exact absurd h he
end Go.Proofs
namespace Go.Proofs
open Go.RowKit Go.Tw Go.Flow Tryz
attribute [local go_sem] Oper.semAt_some
attribute [local go_sem ↓] X6n X3s
def Y3c (s:Q0b) (n:Int):List Bool:=if Q5r s n=0 then (alone s n.toNat).getD [] else []
def Y9w (s:Q0b) (n:Int):Int:=if Q5r s n=0 then (if (alone s n.toNat).isSome then 0 else 24) else Q5r s n
theorem X0p (w:World):Q1v w (.slice none 0 0) []:=Go.Tw.Rows.nil _ _ _
theorem Z6t (w:World) (v:Value) (s:Q0b) (n:Int) (hv:Q0i w v s) (hs:Q2r s) :
    Calls prog 50 #[v,.int .i64 n] w fun e w'=>∃ x,e=.returned (.tuple #[x,.int .i64 (countB (Y3c s n)),.int .i64 (Y9w s n)]) /\ Q1v w' x (Y3c s n) /\ Ext w w':=by
 obtain ⟨a,b,rfl,h2⟩:=hv;obtain ⟨A,Tq,rfl,-,-,-⟩:=h2.ships.opened;obtain ⟨B,Vq,rfl,-,-,-⟩:=h2.members.opened;have H2:=hid h2;have HS:=hid hs;have Mw:Hid (∀ (W:World) (u:Value),Q0g W u [s.err,Q0s (Q7f s n) 10] -> Calls prog 96 #[u] W fun e W'=>e=.returned (.int .i64 (Q5r s n)) /\ W=W'):=hid (fun W u h=>first_any W u _ h);clear h2 hs;go_enter func50,ntmps50;go_upto_region 1 with fail;change Code.wp _ _ _ _ (w.alloc (.cells #[.int .i64 s.limit,.slice A s.ships.length Tq,.slice B s.members.length Vq] 34));obtain ⟨W,Mq,k0,Rq,eW⟩:=Q2q w 34 #[.int .i64 s.limit,.slice A s.ships.length Tq,.slice B s.members.length Vq];rw [Mq];clear Mq;have K0:=hid k0;clear k0;have Xq:=(Ext.refl W).drew;have Pz:Hid (∀ W',Ext W W' -> Q0i W' (.agg #[.int .i64 s.limit,.slice A s.ships.length Tq,.slice B s.members.length Vq]) s):=hid (fun W' hW=>⟨_,_,rfl,H2.out.ext (Rq.out.trans hW)⟩);refine Flow.Q1h [.w,.w,.w,.p,.w,.w,.w,.p] [0,1,2,3,4,5,6,7] [[],[0],[],[],[1,2,3],[1,4],[4,5],[0,1,2,3,4,5,6]]
  [.c 0 (.agg #[.int .i64 s.limit,.slice A s.ships.length Tq,.slice B s.members.length Vq]),.c 1 (.int .i64 s.err),.c 2 (.agg #[.int .i64 s.limit,.slice A s.ships.length Tq,.slice B s.members.length Vq]),.c 3 (.int .i64 n),.c 4 (.int .i64 (Q0s (Q7f s n) 10)),⟨fun v wz=>(fun v w'=>Q0g w' (v 5) [s.err,Q0s (Q7f s n) 10]) v wz,by intro v a b hx h; exact Q0g.ext h hx⟩,.c 6 (.int .i64 (Q5r s n)),.c 7 (.int .i64 (Q5r s n))]
  (by kernel_rfl) rfl (by kernel_rfl) ⟨?g0,?g1,?g2,?g3,?g4,?g5,?g6,?g7,trivial⟩ ?post
 case g0 | g2=>
  intro v w1 hx;intro bb hbb;intro K hK;have o1:bb.eval (.tmp 2)=.pointer (some ⟨w.heap.size,0,none⟩):=fze06
  exact Q0k (.tmp 2) _ rfl X7u Q8v o1 (K0.out.ext (Xq.trans hx)) rfl (hK _ _ (Ext.refl _) rfl)
 case g1=>
  intro v w1 hx;(repeat intro (zq:v _=_));intro bb hbb;subst hbb;intro K hK;go_simp;refine Q0e (Q2k w1 _ s (Pz.out w1 (Xq.trans hx)) HS.out) ?_;rintro e w2 ⟨rfl,Nq⟩;exact ⟨_,rfl,hK _ _ Nq rfl⟩
 case g3=>
  intro v w1 hx;intro bb hbb;subst hbb;refine ⟨_,fun w=>?_,rfl⟩;go_simp
 case g4=>
  intro v w1 hx;(repeat intro (zq:v _=_));intro bb hbb;subst hbb;intro K hK;go_simp;refine Q0e (Q4h w1 _ s n (Pz.out w1 (Xq.trans hx))) ?_;rintro e w2 ⟨rfl,Nq⟩;exact ⟨_,rfl,hK _ _ Nq rfl⟩
 case g5=>
  intro v w1 hx;(repeat intro (zq:v _=_));intro bb hbb;subst hbb;intro K hK;go_simp;exact hK _ _ (Ext.box _ _) (Q3d (l:=[s.err,Q0s (Q7f s n) 10]) (by simp))
 case g6=>
  intro v w1 hx (q4:v 4=_) (q5:(fun v w'=>Q0g w' (v 5) [s.err,Q0s (Q7f s n) 10]) v w1);intro bb hbb;subst hbb;intro K hK;go_simp;refine Q0e (Mw.out w1 _ q5) ?_;rintro e w2 ⟨rfl,rfl⟩;exact ⟨_,rfl,hK _ _ (Ext.refl _) rfl⟩
 case g7=>
  intro v w1 hx (q0:v 0=_) (q1:v 1=_) (q2:v 2=_) (q3:v 3=_) (q4:v 4=_) _ (q6:v 6=_);intro bb hbb;subst hbb;refine ⟨_,fun w=>?_,rfl⟩;go_simp
 case post =>
  intro v w1 hx (q0:v 0=_) (q1:v 1=_) (q2:v 2=_) (q3:v 3=_) (q4:v 4=_) (q5:(fun v w'=>Q0g w' (v 5) [s.err,Q0s (Q7f s n) 10]) v w1) (q6:v 6=_) (q7:v 7=_);simp only [Flow.All,Flow.acts,Act.put];go_simp;have vq:=hid (Rq.out.trans (Xq.trans hx));have b4:=hid (K0.out.ext (Xq.trans hx));obtain ⟨w5,rfl⟩:∃ X,X=w1:=⟨_,rfl⟩;clear hx Xq q0 q1 q2 q3 q4 q5 q6 q7
  by_cases he:Q5r s n=0
  . obtain ⟨Xw,Q5,Ty⟩:=X5j he
    have HV:=hid Xw;have B6:Hid (Y3c s n=(alone s n.toNat).getD []):=hid (if_pos he);have Lv:Hid (Y9w s n=if (alone s n.toNat).isSome then 0 else 24):=hid (if_pos he)
    have hne:(Q5r s n != 0)=false:=by simp [he]
    obtain ⟨i,rfl⟩:∃ i:Nat,n=(i:Int):=⟨n.toNat,by omega⟩
    have kz:i < s.members.length:=by omega
    rw [Int.toNat_natCast] at B6 Lv;obtain ⟨E,hE⟩:∃ E,Q5r s (i:Int)=E:=⟨_,rfl⟩;rw [hE] at hne ⊢;obtain ⟨bm,off,Sq,Jq,Cq,X,Y,Z,rq⟩:=Q3e (H2.out.members.ext vq.out) kz;have hA:=rq.addr;subst hA;have Nz:=hid rq.e0;have HE1':=hid rq.e1;have fy:=hid rq.e2;have G6:=hid rq.e3;have r8:=hid rq.e4;have Jz:=hid (fun W' hW=>rq.mem (W:=W') hW);have hT:=(Xw.shaped i kz).1;have h6:=Xw.tides;have Vg:=hid (fun (W:World) (u:Value) (hu:X2i W u (Q1g s i))=>Y4a W u (Q1g s i) s.limit s.ships.length hu hT (by omega) h6.1 (X1t Xw kz (Nat.le_refl _)))
    have R0:∀ b,alone s i=some b -> b.length=s.ships.length:=fun b hb=>Q7k _ _ _ _ b hb;have Wb:Hid ((Q1g s i).Q4s s.limit s.ships.length (2 ^ s.ships.length)=alone s i):=hid rfl;rw [Wb.out] at Vg;obtain ⟨o,ho⟩:∃ o,alone s i=o:=⟨_,rfl⟩;rw [ho] at Vg B6 Lv R0;have Xq:=(Ext.refl w5).drew;obtain ⟨nm,Aj⟩:∃ x,Q1s s.members i=x:=⟨_,rfl⟩;obtain ⟨wt,lq⟩:∃ x,Q0n s.members i=x:=⟨_,rfl⟩;obtain ⟨lc,vj⟩:∃ x,(Q0c s.members i).length=x:=⟨_,rfl⟩;obtain ⟨lo,Sx⟩:∃ x,(Q1c s.members i).length=x:=⟨_,rfl⟩;obtain ⟨li,mj⟩:∃ x,(Q1f s.members i).length=x:=⟨_,rfl⟩;rw [Aj] at Nz Jz;rw [lq] at HE1' Jz;rw [vj] at fy Jz;rw [Sx] at G6 Jz;rw [mj] at r8 Jz;have V0:(i:Int) < s.members.length:=by omega
    have qz:Hid (0 < s.ships.length /\ s.ships.length <= 6):=hid h6;clear he hE Xw Q5 Ty rq hT ho Aj lq vj Sx mj h6;go_wp2;refine Flow.Q1h [.p,.w,.p,.p,.w,.p,.w,.w,.p] [0,1,2,3,4,5,6,7,8] [[],[0],[],[1,2],[3],[],[5],[4,6],[0,1,2,3,4,5,6,7]]
     [.c 0 (.pointer (some ⟨w.heap.size,2,none⟩)),.c 1 (.slice (some ⟨bm,off,none⟩) s.members.length Vq),.c 2 (.int .i64 (i:Int)),.c 3 (.pointer (some ⟨bm,off + i * 5,none⟩)),.c 4 (.agg #[.string nm,.int .i64 wt,.slice X lc Sq,.slice Y lo Jq,.slice Z li Cq]),.c 5 (.pointer (some ⟨w.heap.size,0,none⟩)),.c 6 (.int .i64 s.limit),⟨fun v wz=>(fun v w'=>Q8j w' (v 7) o) v wz,by intro v a b hx h; exact Q8j.ext h hx⟩,.is 8 (fun v=>v 7)]
     (by kernel_rfl) rfl (by kernel_rfl) ⟨?g0,?g1,?g2,?g3,?g4,?g5,?g6,?g7,?g8,trivial⟩ ?post
    case g0 | g2 | g5=>
     intro v w1 hx;intro bb hbb;subst hbb;refine ⟨_,fun w=>?_,rfl⟩;go_simp
    case g1 | g6=>
     intro v w1 hx;(repeat intro (zq:v _=_));intro bb hbb;subst hbb;have n0:w1.cell? ⟨w.heap.size,2,none⟩=some (.slice (some ⟨bm,off,none⟩) s.members.length Vq):=(b4.out.ext (Xq.trans hx)).cell 2;have n1:w1.cell? ⟨w.heap.size,0,none⟩=some (.int .i64 s.limit):=(b4.out.ext (Xq.trans hx)).cell 0;intro K hK;go_simp;exact hK _ _ (Ext.refl _) rfl
    case g3=>
     intro v w1 hx;(repeat intro (zq:v _=_));intro bb hbb;subst hbb;refine ⟨_,fun w=>?_,rfl⟩;go_simp
    case g4=>
     intro v w1 hx;(repeat intro (zq:v _=_));intro bb hbb;subst hbb;have f0:=(Xq.trans hx).cell Nz.out;have f1:=(Xq.trans hx).cell HE1'.out;have f2:=(Xq.trans hx).cell fy.out;have f3:=(Xq.trans hx).cell G6.out;have f4:=(Xq.trans hx).cell r8.out;intro K hK;go_simp;exact hK _ _ (Ext.refl _) rfl
    case g7=>
     intro v w1 hx;(repeat intro (zq:v _=_));intro bb hbb;subst hbb;intro K hK;go_simp;refine Q0e (Vg.out w1 _ (Jz.out w1 (Xq.trans hx))) ?_;rintro e w2 ⟨x,rfl,h1,Nq⟩;exact ⟨_,rfl,hK _ _ Nq h1⟩
    case g8=>
     intro v w1 hx (q0:v 0=_) (q1:v 1=_) (q2:v 2=_) (q3:v 3=_) (q4:v 4=_) (q5:v 5=_) (q6:v 6=_) _;intro bb hbb;subst hbb;refine ⟨_,fun w=>?_,rfl⟩;go_simp
    case post =>
     intro v w1 hx;(iterate 7 intro (zq:v _=_));intro (q7:(fun v w'=>Q8j w' (v 7) o) v w1) (q8:v 8=v 7);simp only [Flow.All,Flow.acts,Act.put];go_simp;have hq:Q8j w1 (v 7) o:=q7;have kx:=hid (vq.out.trans (Xq.trans hx));clear hx Xq q7 q8;(repeat clear zq);obtain ⟨xv,Vb⟩:∃ z,v 7=z:=⟨_,rfl⟩;rw [Vb] at hq ⊢;cases o with
     | none =>
       replace hq:xv=.slice none 0 0:=hq;subst hq;have bZ:Hid (countB []=0):=hid rfl;clear R0 Vb;go_wp2_with (first | (go_at_call 129; refine (Q6z _ _ [] (X0p _)).mono ?_; rintro e w6 ⟨rfl,Mj⟩) | (go_at_call 119; refine (Q4u _ _ _).mono ?_; rintro e w7 ⟨rfl,rfl⟩))
       go_ret3
       exact ⟨_,by rw [B6.out,Lv.out]; rfl,by rw [B6.out]; exact X0p _,kx.out.trans Mj⟩
     | some b =>
       replace hq:Q0q w1 0 4 .bool xv b:=hq;have mx:=R0 b rfl;have ez:=hid (hq.bools (by have:=qz.out; omega))
       obtain ⟨ab,cb,rfl⟩:∃ ab cb,xv=.slice (some ab) b.length cb:=by
        rcases hq.2 with ⟨_,h0⟩ | ⟨g,Qq,cur,he,_⟩
        . have:=qz.out; omega
        . exact ⟨_,_,he⟩
       clear R0 Vb hq mx;go_wp2_with (first | (go_at_call 129; refine (Q6z _ _ b ez.out).mono ?_; rintro e w6 ⟨rfl,Mj⟩) | (go_at_call 119; refine (Q4u _ _ _).mono ?_; rintro e w7 ⟨rfl,rfl⟩))
       go_ret3
       have HG:Hid (Y3c s (i:Int)=b /\ Y9w s (i:Int)=0):=hid ⟨by rw [B6.out]; rfl,by rw [Lv.out]; rfl⟩
       exact ⟨.slice (some ab) b.length cb,by rw [HG.out.1,HG.out.2]; rfl,by rw [HG.out.1]; exact ez.out.ext Mj,kx.out.trans Mj⟩
  . have B6:Hid (Y3c s n=[]):=hid (if_neg he)
    have Lv:Hid (Y9w s n=Q5r s n):=hid (if_neg he);have hne:(Q5r s n != 0)=true:=by simp [he]
    clear he;go_wp2
    go_ret3
    exact ⟨_,by rw [B6.out,Lv.out]; rfl,by rw [B6.out]; exact X0p _,vq.out⟩
end Go.Proofs
namespace Go.Proofs
open Go.Tw
theorem X9p (l:List Bool) (b:Bool):countB (l ++ [b])=countB l + if b then 1 else 0:=by
 unfold countB;rw [List.countP_append];cases b <;> simp
theorem X2q (l:List Bool):0 <= countB l:=by unfold countB; omega
theorem Y5w {s:Q0b} {p:List Rul} {i:Nat} (hi:i < s.members.length):has (Q1w s p) i=(Q1g s i).keeps s.limit (Q0h p (Q1g s i).classes):=by
 rw [Bool.eq_iff_iff,J0s];unfold Q1w
 constructor
 . intro h
   obtain ⟨j,hj,he⟩:=List.mem_map.1 h;have:j=i:=by have he:(j:Int)=(i:Int):=he; omega
   subst this;exact (List.mem_filter.1 hj).2
 . intro h
   exact List.mem_map.2 ⟨i,List.mem_filter.2 ⟨List.mem_range.2 hi,h⟩,rfl⟩
theorem X1k (f:Nat -> Int) (q:Nat -> Bool):∀ l:List Nat,((l.filter q).map f).sum=(l.map fun i=>if q i then f i else 0).sum
 | []=>rfl
 | a :: l=>by
   rw [List.filter_cons,List.map_cons,List.sum_cons,<- X1k f q l]
   split
   . simp
   . simp
def Y5y (m:Mem) (cl:List Bool):Nat -> Int
 | 0=>0
 | t + 1=>if bx cl t then Y5y m cl t + ix m.inflow t else 0
def Y1x (m:Mem) (cl:List Bool) (t:Nat):Int:=if bx cl t then Y5y m cl t + ix m.inflow t else ix m.outside t
theorem Z4i (m:Mem) (cl:List Bool):∀ t,t <= cl.length -> m.Q2a cl=(List.range t).map (Y1x m cl) ++ m.Q2o t (Y5y m cl t) (cl.drop t)
 | 0,_=>rfl
 | t + 1,h=>by
   rw [Z4i m cl t (by omega),Y2m m cl (by omega:t < cl.length),List.range_succ,List.map_append,List.append_assoc]
   congr 1
   cases hb:bx cl t with
   | false=>simp [Mem.stepT,Y1x,Y5y,hb]
   | true=>simp [Mem.stepT,Y1x,Y5y,hb]
theorem J3t {m:Mem} {cl:List Bool} {t:Nat} (ht:t < cl.length):ix (m.Q2a cl) t=Y1x m cl t:=by
 rw [Z4i m cl cl.length (Nat.le_refl _)];unfold ix;rw [List.getD_eq_getElem?_getD,List.getElem?_append_left (by simpa using ht)]
 simp [ht]
theorem J0m {m:Mem} {cl:List Bool} (h:∀ k,k < cl.length -> 0 <= ix m.inflow k /\ ix m.inflow k <= 1024):∀ t,t <= cl.length -> 0 <= Y5y m cl t /\ Y5y m cl t <= 1024 * t
 | 0,_=>by simp [Y5y]
 | t + 1,ht=>by
   have ih:=J0m h t (by omega)
   have hk:=h t (by omega)
   unfold Y5y
   split <;> omega
theorem Z8h {m:Mem} {cl:List Bool} {t:Nat} (h:bx cl t=true):Y5y m cl (t + 1)=Y5y m cl t + ix m.inflow t /\ Y1x m cl t=Y5y m cl t + ix m.inflow t:=⟨by rw [Y5y,if_pos h],by rw [Y1x,if_pos h]⟩
theorem Z4s {m:Mem} {cl:List Bool} {t:Nat} (h:bx cl t=false):Y5y m cl (t + 1)=0 /\ Y1x m cl t=ix m.outside t:=⟨by rw [Y5y,h]; rfl,by rw [Y1x,h]; rfl⟩
def Q0y (f:Nat -> Int) (k:Nat):Int:=((List.range k).map f).sum
theorem Q4d (f:Nat -> Int) (k:Nat):Q0y f (k + 1)=Q0y f k + f k:=by
 unfold Q0y;rw [List.range_succ,List.map_append,List.sum_append]; simp
theorem Q9q {f:Nat -> Int} {b:Int} {n:Nat} (h:∀ i,i < n -> 0 <= f i /\ f i <= b) (hb:0 <= b):∀ k,k <= n -> 0 <= Q0y f k /\ Q0y f k <= b * k
 | 0,_=>by simp [Q0y]
 | k + 1,hk=>by
   have ih:=Q9q h hb k (by omega)
   have hf:=h k (by omega)
   rw [Q4d];have e:b * ((k + 1:Nat):Int)=b * (k:Int) + b:=by rw [Int.natCast_succ,Int.mul_add,Int.mul_one]
   rw [e];omega
def clF (s:Q0b) (p:List Rul) (i:Nat):Int:=Q0n s.members i * countB (Q0h p (Q0c s.members i))
def dlF (s:Q0b) (p:List Rul) (i:Nat):Int:=Q0n s.members i * Q3y s (Q0h p (Q0c s.members i))
def wtF (s:Q0b) (p:List Rul) (i:Nat):Int:=if has (Q1w s p) i then Q0n s.members i else 0
def alF (s:Q0b) (i:Nat):Int:=Q0n s.members i
theorem J7v (s:Q0b) (p:List Rul):Q0y (clF s p) s.members.length=Q2u s p:=by
 unfold Q0y Q2u;rw [Q6c default (fun m=>m.weight * countB (Q0h p m.classes)) s.members];rfl
theorem J9a (s:Q0b) (p:List Rul):Q0y (dlF s p) s.members.length=Q6q s p:=by
 unfold Q0y Q6q;rw [Q6c default (fun m=>m.weight * Q3y s (Q0h p m.classes)) s.members];rfl
theorem J4t (s:Q0b):Q0y (alF s) s.members.length=Q1t s (allL s):=by
 unfold Q0y Q1t allL;rw [List.map_map];rfl
theorem J4k (s:Q0b) (p:List Rul):Q0y (wtF s p) s.members.length=Q1t s (Q1w s p):=by
 unfold Q0y Q1t;have e:Q1w s p=((List.range s.members.length).filter fun (i:Nat)=>has (Q1w s p) (i:Int)).map Int.ofNat:=by
  unfold Q1w
  congr 1
  refine List.filter_congr fun i hi=>?_;have h:=Y5w (s:=s) (p:=p) (List.mem_range.1 hi);unfold Q1w at h;exact h.symm
 generalize hq:(fun i:Nat=>has (Q1w s p) (i:Int))=q at e;have e1:(List.range s.members.length).map (wtF s p)=(List.range s.members.length).map fun i=>if q i then Q0n s.members i else 0:=by
  refine List.map_congr_left fun i _=>?_;unfold wtF;rw [<- hq]
 rw [e1,e,List.map_map];have:=X1k (fun i=>Q0n s.members i) q (List.range s.members.length);rw [<- this];rfl
theorem J8i {s:Q0b} (hS:Q0r s) (p:List Rul) {i:Nat} (hi:i < s.members.length):0 <= clF s p i /\ clF s p i <= 6000:=by
 have hw:=hS.weights i hi;have h1:=countB_le (Q0h p (Q0c s.members i));have h2:=X2q (Q0h p (Q0c s.members i));rw [Q1l,(hS.shaped i hi).1] at h1;have h3:=hS.tides.2;unfold clF;have a1:Q0n s.members i * countB (Q0h p (Q0c s.members i)) <= 1000 * countB (Q0h p (Q0c s.members i)):=Int.mul_le_mul_of_nonneg_right hw.2 h2;have a2:=Int.mul_nonneg (show 0 <= Q0n s.members i by omega) h2
 omega
theorem J7s {s:Q0b} (hS:Q0r s) (p:List Rul) {i:Nat} (hi:i < s.members.length):0 <= dlF s p i /\ dlF s p i <= 6000000:=by
 have hw:=hS.weights i hi;have h1:=X8u hS (Q0h p (Q0c s.members i)) (by rw [Q1l,(hS.shaped i hi).1]; exact Nat.le_refl _)
 unfold dlF;have a1:Q0n s.members i * Q3y s (Q0h p (Q0c s.members i)) <= 1000 * Q3y s (Q0h p (Q0c s.members i)):=Int.mul_le_mul_of_nonneg_right hw.2 h1.1;have a2:=Int.mul_nonneg (show 0 <= Q0n s.members i by omega) h1.1
 omega
theorem J8f {s:Q0b} (hS:Q0r s) (p:List Rul) {i:Nat} (hi:i < s.members.length):0 <= wtF s p i /\ wtF s p i <= 1000:=by
 have hw:=hS.weights i hi;unfold wtF
 split <;> omega
theorem X8b {s:Q0b} (hS:Q0r s) (p:List Rul) {k:Nat} (hk:k <= s.members.length):(0 <= Q0y (clF s p) k /\ Q0y (clF s p) k <= 48000) /\ (0 <= Q0y (dlF s p) k /\ Q0y (dlF s p) k <= 48000000) /\ (0 <= Q0y (wtF s p) k /\ Q0y (wtF s p) k <= 8000) /\ (0 <= Q0y (alF s) k /\ Q0y (alF s) k <= 8000):=by
 have h8:=hS.some.2;have a:=Q9q (f:=clF s p) (b:=6000) (fun i hi=>J8i hS p hi) (by decide) k hk
 have b:=Q9q (f:=dlF s p) (b:=6000000) (fun i hi=>J7s hS p hi) (by decide) k hk
 have c:=Q9q (f:=wtF s p) (b:=1000) (fun i hi=>J8f hS p hi) (by decide) k hk
 have d:=Q9q (f:=alF s) (b:=1000) (n:=s.members.length) (fun i hi=>by have:=hS.weights i hi; unfold alF; omega) (by decide) k hk
 omega
theorem Z6a {s:Q0b} (hS:Q0r s) {i:Nat} (hi:i < s.members.length):∀ t,t < s.ships.length -> 0 <= ix (Q1g s i).inflow t /\ ix (Q1g s i).inflow t <= 1024:=fun t ht=>by
 have hl:t < (Q1f s.members i).length:=by rw [(hS.shaped i hi).2.2]; exact ht
 have h:=hS.inflow i hi _ (List.getElem_mem hl);rw [<- Q5g hl] at h;exact h
theorem J1i {s:Q0b} (hS:Q0r s):∀ t,t < s.ships.length -> 0 <= ix s.ships t /\ ix s.ships t <= 1000:=fun t ht=>by
 have h:=hS.delays _ (List.getElem_mem ht);rw [<- Q5g ht] at h;exact h
def inC (S wt:Int) (cl:List Bool) (t:Nat):Int:=S + wt * countB (cl.take t)
def inD (s:Q0b) (S wt:Int) (cl:List Bool) (t:Nat):Int:=S + wt * Q3y s (cl.take t)
theorem Y2q {cl:List Bool} {t:Nat} (ht:t < cl.length):cl.take (t + 1)=cl.take t ++ [bx cl t]:=by
 rw [List.take_succ_eq_append_getElem ht]
 congr 2
 simp [bx,ht]
theorem X9y (s:Q0b) (l:List Bool) (b:Bool):Q3y s (l ++ [b])=Q3y s l + if b then ix s.ships l.length else 0:=by
 unfold Q3y;rw [List.length_append,List.length_singleton,List.range_succ,List.map_append,List.sum_append]
 congr 1
 . congr 1
   refine List.map_congr_left fun t ht=>?_;have ht:=List.mem_range.1 ht;rw [List.getD_eq_getElem?_getD,List.getElem?_append_left ht,<- List.getD_eq_getElem?_getD]
 . simp
theorem Z7l (s:Q0b) (S D wt:Int) (cl:List Bool):inC S wt cl 0=S /\ inD s D wt cl 0=D:=by
 constructor
 . simp [inC,countB]
 . simp [inD,Q3y]
theorem J6b {s:Q0b} {S D wt:Int} {cl:List Bool} {t:Nat} (ht:t < cl.length) (h:bx cl t=true):inC S wt cl (t + 1)=inC S wt cl t + wt /\ inD s D wt cl (t + 1)=inD s D wt cl t + wt * ix s.ships t:=by
 have hl:(cl.take t).length=t:=by rw [List.length_take]; omega
 unfold inC inD;rw [Y2q ht,X9p,X9y,h,hl];simp only [if_true,Int.mul_add]
 constructor <;> omega
theorem J4e {s:Q0b} {S D wt:Int} {cl:List Bool} {t:Nat} (ht:t < cl.length) (h:bx cl t=false):inC S wt cl (t + 1)=inC S wt cl t /\ inD s D wt cl (t + 1)=inD s D wt cl t:=by
 unfold inC inD;rw [Y2q ht,X9p,X9y,h];simp
theorem K0g {s:Q0b} (hS:Q0r s) {S D wt:Int} {cl:List Bool} (hw:0 <= wt /\ wt <= 1000) (hl:cl.length=s.ships.length) (t:Nat):(S <= inC S wt cl t /\ inC S wt cl t <= S + 6000) /\ D <= inD s D wt cl t /\ inD s D wt cl t <= D + 6000000:=by
 have h1:=countB_le (cl.take t);have h2:=X2q (cl.take t);rw [List.length_take] at h1;have h3:=hS.tides.2;have h4:=X8u hS (cl.take t) (by rw [List.length_take]; omega)
 have a1:wt * countB (cl.take t) <= 1000 * countB (cl.take t):=Int.mul_le_mul_of_nonneg_right hw.2 h2;have a2:=Int.mul_nonneg hw.1 h2;have b1:wt * Q3y s (cl.take t) <= 1000 * Q3y s (cl.take t):=Int.mul_le_mul_of_nonneg_right hw.2 h4.1;have b2:=Int.mul_nonneg hw.1 h4.1;unfold inC inD;omega
theorem J9b {s:Q0b} {S D:Int} {p:List Rul} {i:Nat}:inC S (Q0n s.members i) (Q0h p (Q0c s.members i)) (Q0h p (Q0c s.members i)).length=S + clF s p i /\ inD s D (Q0n s.members i) (Q0h p (Q0c s.members i)) (Q0h p (Q0c s.members i)).length=D + dlF s p i:=by
 unfold inC inD clF dlF;rw [List.take_length];exact ⟨rfl,rfl⟩
theorem Q8f {p:List Rul} {l:List Int} {t:Nat} (ht:t < l.length):bx (Q0h p l) t=Tw.look p (l.take (t + 1)):=by
 unfold bx Q0h;simp [ht]
theorem Y9c {s:Q0b} (hS:Q0r s) {p:List Rul} (hp:Q0x s.hist p=0) {n i t:Nat} (hr:n < p.length) (hi:i < s.members.length) (ht:t < s.ships.length) :
    bx (Q0h (Q1u p n) (Q0c s.members i)) t=(bx (Q0h p (Q0c s.members i)) t != decide ((Q0c s.members i).take (t + 1)=Q0m p n)):=by
 have hl:t < (Q0c s.members i).length:=by rw [(hS.shaped i hi).1]; exact ht
 rw [Q8f hl,Q8f hl,Y4k hS.shaped hp hr hi ht]
 congr 1
 rw [Bool.eq_iff_iff];simp
theorem J5o {s:Q0b} (hS:Q0r s) {p:List Rul} {i o t:Nat} (hi:i < s.members.length) (ho:o < s.members.length) (ht:t < s.ships.length) (h:(Q0c s.members i).take (t + 1)=(Q0c s.members o).take (t + 1)) :
    bx (Q0h p (Q0c s.members o)) t=bx (Q0h p (Q0c s.members i)) t:=by
 rw [Q8f (by rw [(hS.shaped o ho).1]; exact ht),Q8f (by rw [(hS.shaped i hi).1]; exact ht),h]
theorem Y8d {s:Q0b} (hS:Q0r s) {p:List Rul} {i t:Nat} (hi:i < s.members.length) (h:Q5u s i=some t):t < s.ships.length /\ has (Q1w s p) i=false /\ Z2m s.limit (((Q1g s i).Q2a (Q0h p (Q0c s.members i))).take (t + 1))=false:=by
 obtain ⟨h1,h2⟩:=Z8i h;have hl:(Q0h p (Q0c s.members i)).length=s.ships.length:=by rw [Q1l,(hS.shaped i hi).1]
 have h3:=h2 (Q0h p (Q0c s.members i)) (by omega)
 refine ⟨h1,?_,?_⟩
 . rw [Y5w hi,<- Bool.not_eq_true]
   intro hk;exact Bool.false_ne_true (h3.symm.trans (Z6x hk (t + 1)))
 . rw [Y3u,<- J1p]
   exact h3
theorem J2z {s:Q0b} {p:List Rul} {i:Nat} (hi:i < s.members.length):Z2m s.limit ((Q1g s i).Q2a (Q0h p (Q0c s.members i)))=has (Q1w s p) i:=by
 rw [Y5w hi]; rfl
end Go.Proofs
namespace Go.Proofs
open Go.RowKit Go.Tw Go.Flow Tryz
attribute [local go_sem] Oper.semAt_some
structure Z6r (x:Plan):Prop where
 w:0 <= x.weight /\ x.weight <= 1000000000
 c:0 <= x.closings /\ x.closings <= 1000000000
 d:0 <= x.delay /\ x.delay <= 1000000000000
 l:x.closed.length <= 10000
theorem Q1d.weaken {α:Type} {w:World} {base base' k:Nat} {e:TypeId} {enc:α -> List Value} {v:Value} {xs:List α} (h:Q1d w base e k enc v xs) (hb:base' <= base):Q1d w base' e k enc v xs:=by
 obtain ⟨h1,h2⟩:=h;refine ⟨h1,?_⟩
 rcases h2 with h2 | ⟨g,Qq,cur,hv,Ux,r⟩
 . exact .inl h2
 . exact .inr ⟨g,Qq,cur,hv,Nat.le_trans hb Ux,r⟩
theorem X9v {P:Program} {K:Value -> World -> Prop} {o:Oper} {a:Act} {w:World} {f:FuncId} {x:Operand} {ts:Array TypeId} {u:Value} {R:Ending -> World -> Prop} (ho:o.op=.call { callee:=.value (.func f),args:=#[x],argTypes:=ts })
    (he:Enters P f) (hx:a.eval x=u) (h:Calls P f #[u] w R) (hk:∀ e w',R e w' -> ∃ z,e=.returned z /\ K z w'):gives P K ((execOp a.eval o).run P w):=by
 unfold execOp;simp only [ho,resolve,invoke,Sem.run_bind,List.map_toArray,List.map_cons,List.map_nil,hx];go_simp;rw [he];exact Q0e h hk
theorem X8m {α:Type} {P:Program} {K:Value -> World -> Prop} {o:Oper} {a:Act} {w:World} (s x:Operand) (t:TypeId) (ho:o.op=.call { callee:=.builtin .append,args:=#[s,x],argTypes:=#[t,t] })
    (base:Nat) (e:TypeId) (i:TypeInfo) (z:Value) (k bytes:Nat) (ht:P.underlying t=some (.slice e)) (hi:P.info? e=some i) (hz:i.zero=some z) (yx:i.size=k) (Cg:i.bytes=bytes) (Dw:z.cells.size=k) (Ak:0 < k)
    (enc:α -> List Value) (hk:∀ x,(enc x).length=k) (v:Value) (xs:List α) (y:α) (hs:a.eval s=v) (Yq:Q1d w base e k enc v xs) (ad:Addr) (c:Nat) (hx:a.eval x=.slice (some ad) 1 c)
    (Xj:∀ j u,(enc y)[j]?=some u -> w.cell? (ad.add j)=some u) (h1:∀ u ∈ enc y,u.oneCell'=true)
    (o0:xs.length + 1 <= 100000) (hb:bytes <= 1000) (Sz:base <= w.heap.size)
    (h:∀ v' w',Q1d w' base e k enc v' (xs ++ [y]) -> w.grownBy w' v.ownBlock -> (v'.ownBlock=v.ownBlock ∨ v'.ownBlock=some w.heap.size) -> K v' w'):gives P K ((execOp a.eval o).run P w):=by
 obtain ⟨v',w',hr,h2,h3,h4,h5⟩:=run_append_own_at (P:=P) w base t o.type e i z k bytes ht hi hz yx Cg Dw Ak v xs.length (xs.flatMap enc) Yq ad 1 c (enc y) (by rw [hk]; omega) Xj h1 (by unfold maxLen; omega) (by
     have:(xs.length + 1) * bytes <= 100000 * 1000:=Nat.mul_le_mul o0 hb;omega) Sz
 unfold execOp;simp only [ho,resolve,invoke,builtin,Sem.run_bind,Sem.run_pure,Result.andThen_ok,List.map_toArray,List.map_cons,List.map_nil,hs,hx,hr];exact h v' w' (Q1d.snoc h2) h3 h5
theorem X8i (w:World) (A B:Option Addr) (n c m d:Nat):(Instr.buildSlice 295 2 #[(0,.slice A n c),(1,.slice B m d)]).run prog w=.ok (.slice (some ⟨w.heap.size,0,none⟩) 2 2) (w.alloc (.cells #[.slice A n c,.slice B m d] 157)):=by kernel_rfl
theorem Q7w {K:Value -> World -> Prop} {o:Oper} {a:Act} {w:World} (T E:TypeId) (x y:Operand) (ho:o.op=.buildSlice T 2 #[(0,x),(1,y)]) {u v:Value} (hx:a.eval x=u) (hy:a.eval y=v) (hr:(Instr.buildSlice T 2 #[(0,u),(1,v)]).run prog w=.ok (.slice (some ⟨w.heap.size,0,none⟩) 2 2) (w.alloc (.cells #[u,v] E)))
    (h:K (.slice (some ⟨w.heap.size,0,none⟩) 2 2) (w.alloc (.cells #[u,v] E))):gives prog K ((execOp a.eval o).run prog w):=by
 unfold execOp;simp only [ho,hx,hy,List.map_toArray,List.map_cons,List.map_nil,Sem.run_bind,hr,Result.andThen_ok,Sem.run_pure];exact h
def X1s (ps qs0:List Plan) (k:Nat):List Plan:=(ps.take k).flatMap fun x=>qs0.map (both x)
def X2b (x:Plan) (qs0:List Plan) (j:Nat):List Plan:=(qs0.take j).map (both x)
theorem X8h {ps qs0:List Plan} {k:Nat} {x:Plan} (h:ps[k]?=some x):X1s ps qs0 (k + 1)=X1s ps qs0 k ++ X2b x qs0 qs0.length:=by
 obtain ⟨hk,rfl⟩:=List.getElem?_eq_some_iff.1 h;unfold X1s X2b;rw [List.take_succ_eq_append_getElem hk,List.flatMap_append,List.flatMap_singleton,List.take_length]
theorem Z1z {x:Plan} {qs0:List Plan} {j:Nat} {y:Plan} (h:qs0[j]?=some y):X2b x qs0 (j + 1)=X2b x qs0 j ++ [both x y]:=by
 obtain ⟨hk,rfl⟩:=List.getElem?_eq_some_iff.1 h;unfold X2b;rw [List.take_succ_eq_append_getElem hk,List.map_append]; rfl
theorem Y3q (ps qs0:List Plan) (k:Nat) (hk:k <= ps.length):(X1s ps qs0 k).length=k * qs0.length:=by
 induction k with
 | zero=>simp [X1s]
 | succ k ih =>
   rw [X8h (List.getElem?_eq_getElem hk),List.length_append,ih (by omega),Nat.succ_mul]
   simp [X2b]
theorem Z4r (ps qs0:List Plan):X8k (X1s ps qs0 ps.length)=together ps qs0:=by unfold X1s together; rw [List.take_length]
theorem Q8c {w:World} {B:Nat} {v:Value} {ps:List PV} (h:Q1d w B 159 4 Q3g v ps):∃ A cv,v=.slice A ps.length cv /\ Hid (∀ j (hj:j < ps.length),∃ gb,A=some ⟨gb,0,none⟩ /\ ∀ i,i < 4 -> w.cell? ⟨gb,j * 4 + i,none⟩=(Q3g ps[j])[i]?):=by
 rcases OwnP.cases h with ⟨rfl,h0⟩ | ⟨gb,Qq,cur,rfl,_,hb,_,_,_,ey⟩
 . exact ⟨none,0,by rw [h0]; rfl,hid (fun j hj=>by rw [h0] at hj; simp at hj)⟩
 . exact ⟨_,Qq,rfl,hid (fun j hj=>⟨gb,rfl,fun i hi=>X3i hb ey hj hi⟩)⟩
theorem Y9n (w:World) (B1 B2:Nat) (va vb:Value) (ps qs0:List PV) (ha:Q1d w B1 159 4 Q3g va ps) (hb:Q1d w B2 159 4 Q3g vb qs0) (Xz:Q0v w ps) (Kj:Q0v w qs0) (kZ:∀ q ∈ ps,Z6r q.1) (xf:∀ q ∈ qs0,Z6r q.1)
    (Dq:ps.length * qs0.length <= 80000) (mw:ps.length <= 80000) (ry:qs0.length <= 80000) :
    Calls prog 184 #[va,vb] w fun e w'=>∃ v' qs,e=.returned v' /\ Q1d w' w.heap.size 159 4 Q3g v' qs /\ Q0v w' qs /\ qs.map (·.1)=together (ps.map (·.1)) (qs0.map (·.1)) /\ Ext w w':=by
 obtain ⟨i0,hi,dq,fq,Zj⟩:=info_parts Y8s;have T3:=hid Xz;have M6:=hid Kj;have A8:=hid kZ;have DQ:=hid xf;obtain ⟨A,cv,nj,Gj⟩:=Q8c ha;subst nj;obtain ⟨B,dv,nj,aZ⟩:=Q8c hb;subst nj;obtain ⟨L,hL⟩:∃ L,ps.length=L:=⟨_,rfl⟩;obtain ⟨M,hM⟩:∃ M,qs0.length=M:=⟨_,rfl⟩;have HL:=hid hL;have HM:=hid hM;rw [hL] at Dq mw ⊢;rw [hM] at Dq ry ⊢;have jw:=hid Dq;have iz:=hid (Z4r (ps.map (·.1)) (qs0.map (·.1)));clear ha hb Xz Kj kZ xf hL hM Dq;go_enter func184,ntmps184;go_wp2
 go_loopw [5,12] (fun o i wr=>∃ (k:Nat) (qs:List PV),k <= L /\ i=.int .i64 k /\ Q1d wr w.heap.size 159 4 Q3g o qs /\ Q0v wr qs /\ qs.map (·.1)=X1s (ps.map (·.1)) (qs0.map (·.1)) k /\ Ext w wr) (fun _ i _=>L - (intOf i).toNat)
 case atStart=>exact ⟨0,[],Nat.zero_le _,rfl,Q1d.nil _ _ _ _ _,Q0v.nil _,rfl,Ext.refl _⟩
 case round =>
  obtain ⟨k,qs,hk,rfl,Yq,dx,Ez,hx⟩:=hrel;have Ly:=hid Ez;have HX:=hid hx;have kq:=hid Yq;have bw:=hid dx;have p8:Hid (qs.length=k * M):=hid (by
   have:=congrArg List.length Ez;rw [List.length_map,Y3q _ _ _ (by rw [List.length_map,HL.out]; exact hk),List.length_map,HM.out] at this
   exact this)
  by_cases Uq:k < L
  . have Oj:k < ps.length:=by rw [HL.out]; exact Uq
    have zj:(k:Int) < L:=by omega
    obtain ⟨gb,rfl,Wq⟩:=Gj.out k Oj;have e0:=hx.cell (Wq 0 (by omega))
    have e1:=hx.cell (Wq 1 (by omega))
    have e2:=hx.cell (Wq 2 (by omega))
    have e3:=hx.cell (Wq 3 (by omega))
    obtain ⟨A4,n4,c4,ox⟩:=T3.out.shape (List.getElem_mem Oj);have jx:(ps.map (·.1))[k]?=some ps[k].1:=by rw [List.getElem?_map,List.getElem?_eq_getElem Oj]; rfl
    have hcl:=T3.out ps[k] (List.getElem_mem Oj);have Tv:=A8.out ps[k] (List.getElem_mem Oj);obtain ⟨qk,Jx⟩:∃ z,ps[k]=z:=⟨_,rfl⟩;rw [Jx] at e0 e1 e2 e3 ox hcl jx Tv;obtain ⟨x,xv⟩:=qk;replace ox:xv=.slice A4 n4 c4:=ox;subst ox;have Sj:=hid (X8h (qs0:=qs0.map (·.1)) jx);rw [Nat.add_zero] at e0;have pz:=hid hcl;have B7:Hid (Z6r x):=hid Tv;obtain ⟨x1,aq⟩:∃ z,x.weight=z:=⟨_,rfl⟩;obtain ⟨x2,Nq⟩:∃ z,x.closings=z:=⟨_,rfl⟩;obtain ⟨x3,yj⟩:∃ z,x.delay=z:=⟨_,rfl⟩;have Qx:=hid (show x.weight=x1 /\ x.closings=x2 /\ x.delay=x3 from ⟨aq,Nq,yj⟩)
    have Bq:=Ext.box wr (.cells #[.int .i64 x1,.int .i64 x2,.int .i64 x3,.slice A4 n4 c4] 159);have K3:=Blk.made wr 159 #[.int .i64 x1,.int .i64 x2,.int .i64 x3,.slice A4 n4 c4];replace e0:wr.cell? ⟨gb,k * 4,none⟩=some (.int .i64 x1):=by rw [<- aq]; exact e0
    replace e1:wr.cell? ⟨gb,k * 4 + 1,none⟩=some (.int .i64 x2):=by rw [<- Nq]; exact e1
    replace e2:wr.cell? ⟨gb,k * 4 + 2,none⟩=some (.int .i64 x3):=by rw [<- yj]; exact e2
    replace e3:wr.cell? ⟨gb,k * 4 + 3,none⟩=some (.slice A4 n4 c4):=e3;have jq:=hid Bq;have My:=hid K3;clear Wq Jx aq Nq yj Bq K3 Yq dx Ez hx hcl Tv jx Oj
    go_light
    go_wp2;obtain ⟨w5,vf⟩:∃ z,wr.alloc (.cells #[.int .i64 x1,.int .i64 x2,.int .i64 x3,.slice A4 n4 c4] 159)=z:=⟨_,rfl⟩;rw [vf] at jq My ⊢;obtain ⟨g7,GY⟩:∃ z,wr.heap.size=z:=⟨_,rfl⟩;have Jr:=hid GY;rw [GY] at My ⊢;have ek:=hid (fun (b:Nat) hb=>(OwnP.Q9f kq.out b hb).2.1);rw [GY] at ek;clear vf GY e0 e1 e2 e3
    go_loopw [5,18] (fun o j wq=>∃ (n:Nat) (zs:List PV),n <= M /\ j=.int .i64 n /\ Q1d wq w.heap.size 159 4 Q3g o zs /\ Q0v wq zs /\ zs.map (·.1)=X1s (ps.map (·.1)) (qs0.map (·.1)) k ++ X2b x (qs0.map (·.1)) n /\ Ext w wq /\ Blk wq g7 159 #[.int .i64 x1,.int .i64 x2,.int .i64 x3,.slice A4 n4 c4] /\ some g7 ≠ o.ownBlock) (fun _ j _=>M - (intOf j).toNat)
    case atStart=>exact ⟨0,qs,Nat.zero_le _,rfl,kq.out.below jq.out,bw.out.ext jq.out,by rw [Ly.out]; simp [X2b],HX.out.trans jq.out,My.out,fun e=>by have:=ek.out _ e.symm; omega⟩
    case round =>
     obtain ⟨n,zs,hn,rfl,Yq,dx,Ez,hx,vw,ZK⟩:=hrel;have Ug:=hid Ez;have Rq:=hid hx;have Un:=hid vw;have YK:=hid ZK;clear vw ZK;have XK:=hid Yq;have WK:=hid dx;have Tn:Hid (zs.length=k * M + n):=hid (by
      have:=congrArg List.length Ez;rw [List.length_map,List.length_append,Y3q _ _ _ (by rw [List.length_map,HL.out]; exact hk),List.length_map,HM.out] at this
      rw [this]; unfold X2b; rw [List.length_map,List.length_take,List.length_map,HM.out]; omega)
     by_cases S3:n < M
     . have QX:n < qs0.length:=by rw [HM.out]; exact S3
       have Fa:(n:Int) < M:=by omega
       obtain ⟨gc,rfl,Wq⟩:=aZ.out n QX;have e0:=Rq.out.cell (Wq 0 (by omega))
       have e1:=Rq.out.cell (Wq 1 (by omega))
       have e2:=Rq.out.cell (Wq 2 (by omega))
       have e3:=Rq.out.cell (Wq 3 (by omega))
       obtain ⟨B4,m4,d4,ox⟩:=M6.out.shape (List.getElem_mem QX);have jx:(qs0.map (·.1))[n]?=some qs0[n].1:=by rw [List.getElem?_map,List.getElem?_eq_getElem QX]; rfl
       have hcl:=M6.out qs0[n] (List.getElem_mem QX);have Tv:=DQ.out qs0[n] (List.getElem_mem QX);obtain ⟨qk,Jx⟩:∃ z,qs0[n]=z:=⟨_,rfl⟩;rw [Jx] at e0 e1 e2 e3 ox hcl jx Tv;obtain ⟨y,yv⟩:=qk;replace ox:yv=.slice B4 m4 d4:=ox;subst ox;obtain ⟨Ao,co,ay,-⟩:=Yq.shape;subst ay;have LQ:=hid (Z1z (x:=x) jx);rw [Nat.add_zero] at e0;have aJ:=hid hcl;have oQ:Hid (Z6r y):=hid Tv;obtain ⟨y1,Cv⟩:∃ z,y.weight=z:=⟨_,rfl⟩;obtain ⟨y2,Og⟩:∃ z,y.closings=z:=⟨_,rfl⟩;obtain ⟨y3,P5⟩:∃ z,y.delay=z:=⟨_,rfl⟩;have Dz:=hid (show y.weight=y1 /\ y.closings=y2 /\ y.delay=y3 from ⟨Cv,Og,P5⟩)
       replace e0:wr.cell? ⟨gc,n * 4,none⟩=some (.int .i64 y1):=by rw [<- Cv]; exact e0
       replace e1:wr.cell? ⟨gc,n * 4 + 1,none⟩=some (.int .i64 y2):=by rw [<- Og]; exact e1
       replace e2:wr.cell? ⟨gc,n * 4 + 2,none⟩=some (.int .i64 y3):=by rw [<- P5]; exact e2
       replace e3:wr.cell? ⟨gc,n * 4 + 3,none⟩=some (.slice B4 m4 d4):=e3;have Bq:=Ext.box wr (.cells #[.int .i64 y1,.int .i64 y2,.int .i64 y3,.slice B4 m4 d4] 159);have K3:=Blk.made wr 159 #[.int .i64 y1,.int .i64 y2,.int .i64 y3,.slice B4 m4 d4];have uz:=hid Bq;have PX:=hid K3;have Q1:IntKind.i64.wrap (x1 + y1)=x1 + y1:=Q2j _ (by have:=B7.out.w; have:=oQ.out.w; have:=Qx.out; have:=Dz.out; omega) (by have:=B7.out.w; have:=oQ.out.w; have:=Qx.out; have:=Dz.out; omega)
       have J9:IntKind.i64.wrap (x2 + y2)=x2 + y2:=Q2j _ (by have:=B7.out.c; have:=oQ.out.c; have:=Qx.out; have:=Dz.out; omega) (by have:=B7.out.c; have:=oQ.out.c; have:=Qx.out; have:=Dz.out; omega)
       have Yn:IntKind.i64.wrap (x3 + y3)=x3 + y3:=Q2j _ (by have:=B7.out.d; have:=oQ.out.d; have:=Qx.out; have:=Dz.out; omega) (by have:=B7.out.d; have:=oQ.out.d; have:=Qx.out; have:=Dz.out; omega)
       clear Wq Jx Cv Og P5 Bq K3 Yq dx Ez hx hcl Tv jx QX
       go_light
       go_wp2;obtain ⟨wb,Cz⟩:∃ z,wr.alloc (.cells #[.int .i64 y1,.int .i64 y2,.int .i64 y3,.slice B4 m4 d4] 159)=z:=⟨_,rfl⟩;rw [Cz] at uz PX ⊢;obtain ⟨g9,OX⟩:∃ z,wr.heap.size=z:=⟨_,rfl⟩;rw [OX] at PX ⊢;have R3:Hid (Blk wb g7 159 #[.int .i64 x1,.int .i64 x2,.int .i64 x3,.slice A4 n4 c4]):=hid (Un.out.ext uz.out);have U3:=hid (XK.out.below uz.out);have Ub:=hid (WK.out.ext uz.out);have Mg:Hid (Q0q wb 0 9 .string (.slice A4 n4 c4) x.closed):=hid (pz.out.below (Rq.out.trans uz.out));have Zk:Hid (Q0q wb 0 9 .string (.slice B4 m4 d4) y.closed):=hid (aJ.out.below (Rq.out.trans uz.out));have Mv:Hid (w.heap.size <= wb.heap.size):=hid (by have:=Rq.out.size; have:=uz.out.size; omega)
       have Y0:=hid (fun (W:World) g hB h1 h2=>X8r W g 157 (.slice A4 n4 c4) (.slice B4 m4 d4) 0 0 x.closed y.closed hB h1 h2 (by have:=B7.out.l; have:=oQ.out.l; omega))
       have E4:=hid (enters_of (P:=prog) func196 (by kernel_rfl) rfl)
       have Zy:Hid (∀ (W:World) gn V,Blk W gn 159 #[.int .i64 (x1 + y1),.int .i64 (x2 + y2),.int .i64 (x3 + y3),V] -> ∀ j u,(Q3g (both x y,V))[j]?=some u -> W.cell? ((⟨gn,0,none⟩:Addr).add j)=some u):=hid (fun W gn V hb=>by unfold Q3g both; dsimp only; rw [Qx.out.1,Qx.out.2.1,Qx.out.2.2,Dz.out.1,Dz.out.2.1,Dz.out.2.2]; exact Q6d hb)
       have dj:Hid (∀ A n c,∀ u ∈ Q3g (both x y,.slice A n c),u.oneCell'=true):=hid (fun A n c=>by unfold Q3g; simp [Value.oneCell'])
       have Gg:Hid (zs.length + 1 <= 100000):=hid (by
        rw [Tn.out];have h1:(k + 1) * M <= L * M:=Nat.mul_le_mul_right _ Uq;have h2:=jw.out;rw [Nat.succ_mul] at h1;omega)
       have Xq:=(Ext.refl wb).drew;clear Cz OX e0 e1 e2 e3;refine Flow.Q3q [.p,.p,.w,.p,.w,.p,.p,.p,.w,.p,.p,.w,.p,.p,.p,.w,.p,.p,.w,.p,.p,.p,.w,.p,.w,.w,.w,.p,.w,.last,.last] [0,1,2,3,4,5,6,7,8,9,10,11,12,13,14,15,16,17,18,19,20,21,22,23,24,25,26,27,28,29,30] [[],[],[1],[],[3],[1,2,3,4],[],[6],[6,7],[],[9],[9,10],[6,7,8,9,10,11],[],[13],[13,14],[],[16],[16,17],[13,14,15,16,17,18],[6,7,8,9,10,11,12,13,14,15,16,17,18,19],[],[21],[],[23],[21,22,23,24],[21,22,23,24,25],[1,2,3,4,5,6,7,8,9,10,11,12,13,14,15,16,17,18,19,20,21,22,23,24,25,26],[1,2,3,4,5,6,7,8,9,10,11,12,13,14,15,16,17,18,19,20,21,22,23,24,25,26,27],[0,1,2,3,4,5,6,7,8,9,10,11,12,13,14,15,16,17,18,19,20,21,22,23,24,25,26,27,28],[0,1,2,3,4,5,6,7,8,9,10,11,12,13,14,15,16,17,18,19,20,21,22,23,24,25,26,27,28,29]] [29,30]
        [.c 0 (.slice Ao zs.length co),.c 1 (.pointer (some ⟨g7,0,none⟩)),.c 2 (.int .i64 x1),.c 3 (.pointer (some ⟨g9,0,none⟩)),.c 4 (.int .i64 y1),.c 5 (.int .i64 (x1 + y1)),.c 6 (.pointer (some ⟨g7,1,none⟩)),.c 7 (.pointer (some ⟨g7,1,none⟩)),.c 8 (.int .i64 x2),.c 9 (.pointer (some ⟨g9,1,none⟩)),.c 10 (.pointer (some ⟨g9,1,none⟩)),.c 11 (.int .i64 y2),.c 12 (.int .i64 (x2 + y2)),.c 13 (.pointer (some ⟨g7,1,none⟩)),.c 14 (.pointer (some ⟨g7,2,none⟩)),.c 15 (.int .i64 x3),.c 16 (.pointer (some ⟨g9,1,none⟩)),.c 17 (.pointer (some ⟨g9,2,none⟩)),.c 18 (.int .i64 y3),.c 19 (.int .i64 (x3 + y3)),.c 20 (.agg #[.int .i64 (x2 + y2),.int .i64 (x3 + y3)]),.c 21 (.pointer (some ⟨g7,3,none⟩)),.c 22 (.slice A4 n4 c4),.c 23 (.pointer (some ⟨g9,3,none⟩)),.c 24 (.slice B4 m4 d4),⟨fun v wz=>(fun v w'=>∃ gn,v 25=.slice (some ⟨gn,0,none⟩) 2 2 /\ Blk w' gn 157 #[.slice A4 n4 c4,.slice B4 m4 d4]) v wz,by rintro v a b hx ⟨gn,h1,h2⟩; exact ⟨gn,h1,h2.ext hx⟩⟩,⟨fun v wz=>(fun v w'=>∃ A n c,v 26=.slice A n c /\ Q0q w' 0 9 .string (.slice A n c) (x.closed ++ y.closed)) v wz,by rintro v a b hx ⟨A,n,c,h1,h2⟩; exact ⟨A,n,c,h1,h2.below hx⟩⟩,.is 27 (fun v=>.agg #[.int .i64 (x1 + y1),.int .i64 (x2 + y2),.int .i64 (x3 + y3),v 26]),⟨fun v wz=>(fun v w'=>∃ gn,v 28=.slice (some ⟨gn,0,none⟩) 1 1 /\ Blk w' gn 159 #[.int .i64 (x1 + y1),.int .i64 (x2 + y2),.int .i64 (x3 + y3),v 26]) v wz,by rintro v a b hx ⟨gn,h1,h2⟩; exact ⟨gn,h1,h2.ext hx⟩⟩,.none,.none]
        [fun v w1 w'=>Q1d w' w.heap.size 159 4 Q3g (v 29) (zs ++ [(both x y,v 26)]) /\ w1.grownBy w' (Value.slice Ao zs.length co).ownBlock /\ ((v 29).ownBlock=(Value.slice Ao zs.length co).ownBlock ∨ (v 29).ownBlock=some w1.heap.size),fun v w1 w'=>v 30=v 29 /\ Q1d w' w.heap.size 159 4 Q3g (v 29) (zs ++ [(both x y,v 26)]) /\ w1.grownBy w' (Value.slice Ao zs.length co).ownBlock /\ ((v 29).ownBlock=(Value.slice Ao zs.length co).ownBlock ∨ (v 29).ownBlock=some w1.heap.size)] (by kernel_rfl) rfl (by kernel_rfl) ⟨?g0,?g1,?g2,?g3,?g4,?g5,?g6,?g7,?g8,?g9,?g10,?g11,?g12,?g13,?g14,?g15,?g16,?g17,?g18,?g19,?g20,?g21,?g22,?g23,?g24,?g25,?g26,?g27,?g28,?g29,?g30,trivial⟩ ?post
       case g0 | g1 | g3 | g6 | g9 | g13 | g16 | g21 | g23=>
        intro v w1 hx;intro bb hbb;subst hbb;refine ⟨_,fun w=>?_,rfl⟩;go_simp
       case g2 | g4 | g8 | g11 | g15 | g18 | g22 | g24=>
        intro v w1 hx;(repeat intro (zq:v _=_));intro bb hbb;subst hbb;have zz0:w1.cell? ⟨g7,0,none⟩=some (.int .i64 x1):=(R3.out.ext (Xq.trans hx)).cell 0;have zz1:w1.cell? ⟨g9,0,none⟩=some (.int .i64 y1):=(PX.out.ext (Xq.trans hx)).cell 0;have zz2:w1.cell? ⟨g7,1,none⟩=some (.int .i64 x2):=(R3.out.ext (Xq.trans hx)).cell 1;have zz3:w1.cell? ⟨g9,1,none⟩=some (.int .i64 y2):=(PX.out.ext (Xq.trans hx)).cell 1;have zz4:w1.cell? ⟨g7,2,none⟩=some (.int .i64 x3):=(R3.out.ext (Xq.trans hx)).cell 2;have zz5:w1.cell? ⟨g9,2,none⟩=some (.int .i64 y3):=(PX.out.ext (Xq.trans hx)).cell 2;have zz6:w1.cell? ⟨g7,3,none⟩=some (.slice A4 n4 c4):=(R3.out.ext (Xq.trans hx)).cell 3;have zz7:w1.cell? ⟨g9,3,none⟩=some (.slice B4 m4 d4):=(PX.out.ext (Xq.trans hx)).cell 3;intro K hK;go_simp;exact hK _ _ (Ext.refl _) rfl
       case g5 | g7 | g10 | g12 | g14 | g17 | g19 | g20=>
        intro v w1 hx;(repeat intro (zq:v _=_));intro bb hbb;subst hbb;refine ⟨_,fun w=>?_,rfl⟩;go_simp
       case g25=>
        intro v w1 hx;(repeat intro (zq:v _=_));intro bb hbb;intro K hK;have o1:bb.eval (.tmp 44)=.slice A4 n4 c4:=fzg06
        have o2:bb.eval (.tmp 46)=.slice B4 m4 d4:=fzg06
        exact Q7w 295 157 (.tmp 44) (.tmp 46) rfl o1 o2 (X8i w1 _ _ _ _ _ _) (hK _ _ (Ext.box _ _) ⟨_,rfl,Blk.made _ _ _⟩)
       case g26=>
        intro v w1 hx (q21:v 21=_) (q22:v 22=_) (q23:v 23=_) (q24:v 24=_) (q25:(fun v w'=>∃ gn,v 25=.slice (some ⟨gn,0,none⟩) 2 2 /\ Blk w' gn 157 #[.slice A4 n4 c4,.slice B4 m4 d4]) v w1);intro bb hbb;intro K hK;obtain ⟨gn,e25,Tb⟩:=q25;have o1:bb.eval (.tmp 47)=.slice (some ⟨gn,0,none⟩) 2 2:=fzg06
        have Zq:=Xq.trans hx;refine X9v rfl E4.out o1 (Y0.out w1 gn Tb (Mg.out.below Zq) (Zk.out.below Zq)) ?_;rintro e w2 ⟨z,rfl,h1,h2⟩;obtain ⟨A,c,rfl,-⟩:=h1.shape;exact ⟨_,rfl,hK _ _ h2 ⟨A,_,c,rfl,h1.weaken (Nat.zero_le _)⟩⟩
       case g27=>
        intro v w1 hx (q1:v 1=_) (q2:v 2=_) (q3:v 3=_) (q4:v 4=_) (q5:v 5=_) (q6:v 6=_) (q7:v 7=_) (q8:v 8=_) (q9:v 9=_) (q10:v 10=_) (q11:v 11=_) (q12:v 12=_) (q13:v 13=_) (q14:v 14=_) (q15:v 15=_) (q16:v 16=_) (q17:v 17=_) (q18:v 18=_) (q19:v 19=_) (q20:v 20=_) (q21:v 21=_) (q22:v 22=_) (q23:v 23=_) (q24:v 24=_) _ (q26:(fun v w'=>∃ A n c,v 26=.slice A n c /\ Q0q w' 0 9 .string (.slice A n c) (x.closed ++ y.closed)) v w1);intro bb hbb;obtain ⟨A,n,c,e26,VK⟩:=q26;have o1:bb.eval (.tmp 27)=.int .i64 (x1 + y1):=fzg06
        have o2:bb.eval (.tmp 42)=.agg #[.int .i64 (x2 + y2),.int .i64 (x3 + y3)]:=fzg06
        have o3:bb.eval (.tmp 48)=.slice A n c:=fzg06
        refine ⟨.agg #[.int .i64 (x1 + y1),.int .i64 (x2 + y2),.int .i64 (x3 + y3),v 26],fun w=>?_,rfl⟩;rw [e26];unfold execOp;simp only [List.map_toArray,List.map_cons,List.map_nil,o1,o2,o3];clear o1 o2 o3 hbb;go_simp
       case g28=>
        intro v w1 hx (q1:v 1=_) (q2:v 2=_) (q3:v 3=_) (q4:v 4=_) (q5:v 5=_) (q6:v 6=_) (q7:v 7=_) (q8:v 8=_) (q9:v 9=_) (q10:v 10=_) (q11:v 11=_) (q12:v 12=_) (q13:v 13=_) (q14:v 14=_) (q15:v 15=_) (q16:v 16=_) (q17:v 17=_) (q18:v 18=_) (q19:v 19=_) (q20:v 20=_) (q21:v 21=_) (q22:v 22=_) (q23:v 23=_) (q24:v 24=_) _ (q26:(fun v w'=>∃ A n c,v 26=.slice A n c /\ Q0q w' 0 9 .string (.slice A n c) (x.closed ++ y.closed)) v w1) (q27:v 27=.agg #[.int .i64 (x1 + y1),.int .i64 (x2 + y2),.int .i64 (x3 + y3),v 26]);intro bb hbb;intro K hK;obtain ⟨A,n,c,e26,VK⟩:=q26;have o1:bb.eval (.tmp 49)=.agg #[.int .i64 (x1 + y1),.int .i64 (x2 + y2),.int .i64 (x3 + y3),.slice A n c]:=by rw [hbb]; dsimp only; (try simp (discharger:=decide) only [eval_put_ne]); rw [Q0a (by simp only [size_put]; exact (by decide:49 < 56))]; rw [q27,e26]
        exact Q3o 160 159 (.tmp 49) rfl o1 (X8v w1 _ _ _ _ _ _) (hK _ _ (Ext.box _ _) ⟨_,rfl,by show Blk _ _ _ #[_,_,_,v 26]; rw [e26]; exact Blk.made _ _ _⟩)
       case g29=>
        intro v w1 hx (q0:v 0=_) (q1:v 1=_) (q2:v 2=_) (q3:v 3=_) (q4:v 4=_) (q5:v 5=_) (q6:v 6=_) (q7:v 7=_) (q8:v 8=_) (q9:v 9=_) (q10:v 10=_) (q11:v 11=_) (q12:v 12=_) (q13:v 13=_) (q14:v 14=_) (q15:v 15=_) (q16:v 16=_) (q17:v 17=_) (q18:v 18=_) (q19:v 19=_) (q20:v 20=_) (q21:v 21=_) (q22:v 22=_) (q23:v 23=_) (q24:v 24=_) _ (q26:(fun v w'=>∃ A n c,v 26=.slice A n c /\ Q0q w' 0 9 .string (.slice A n c) (x.closed ++ y.closed)) v w1) (q27:v 27=.agg #[.int .i64 (x1 + y1),.int .i64 (x2 + y2),.int .i64 (x3 + y3),v 26]) (q28:(fun v w'=>∃ gn,v 28=.slice (some ⟨gn,0,none⟩) 1 1 /\ Blk w' gn 159 #[.int .i64 (x1 + y1),.int .i64 (x2 + y2),.int .i64 (x3 + y3),v 26]) v w1);intro wl hT;obtain rfl:wl=w1:=hT;intro bb hbb;intro K hK;obtain ⟨A,n,c,e26,VK⟩:=q26;obtain ⟨gn,e28,Sb⟩:=q28;have o1:bb.eval (.tmp 22)=.slice Ao zs.length co:=fzg06
        have o2:bb.eval (.tmp 50)=.slice (some ⟨gn,0,none⟩) 1 1:=fzg06
        exact X8m _ _ 160 rfl w.heap.size 159 i0 (.agg #[.int .i64 0,.int .i64 0,.int .i64 0,.slice none 0 0]) 4 48 underlying160 hi dq fq Zj rfl (by decide) Q3g Q4o _ zs (both x y,v 26) o1 (U3.out.below (Xq.trans hx)) ⟨gn,0,none⟩ 1 o2 (Zy.out wl gn _ Sb) (by rw [e26]; exact dj.out A n c) Gg.out (by decide) (by have:=(Xq.trans hx).size; have:=Mv.out; omega) (fun v' w' h1 h2 h3=>hK _ _ ⟨h1,h2,h3⟩)
       case g30=>
        intro v w1 hx (q0:v 0=_) (q1:v 1=_) (q2:v 2=_) (q3:v 3=_) (q4:v 4=_) (q5:v 5=_) (q6:v 6=_) (q7:v 7=_) (q8:v 8=_) (q9:v 9=_) (q10:v 10=_) (q11:v 11=_) (q12:v 12=_) (q13:v 13=_) (q14:v 14=_) (q15:v 15=_) (q16:v 16=_) (q17:v 17=_) (q18:v 18=_) (q19:v 19=_) (q20:v 20=_) (q21:v 21=_) (q22:v 22=_) (q23:v 23=_) (q24:v 24=_) _ _ (q27:v 27=.agg #[.int .i64 (x1 + y1),.int .i64 (x2 + y2),.int .i64 (x3 + y3),v 26]) _;intro wl hT;replace hT:(fun v w1 w'=>Q1d w' w.heap.size 159 4 Q3g (v 29) (zs ++ [(both x y,v 26)]) /\ w1.grownBy w' (Value.slice Ao zs.length co).ownBlock /\ ((v 29).ownBlock=(Value.slice Ao zs.length co).ownBlock ∨ (v 29).ownBlock=some w1.heap.size)) v w1 wl:=hT;intro bb hbb;subst hbb;intro K hK;go_simp;exact hK _ _ ⟨rfl,hT⟩
       case post =>
        intro v w1 hx;(iterate 25 intro (zq:v _=_));intro (q25:(fun v w'=>∃ gn,v 25=.slice (some ⟨gn,0,none⟩) 2 2 /\ Blk w' gn 157 #[.slice A4 n4 c4,.slice B4 m4 d4]) v w1) (q26:(fun v w'=>∃ A n c,v 26=.slice A n c /\ Q0q w' 0 9 .string (.slice A n c) (x.closed ++ y.closed)) v w1) (q27:v 27=.agg #[.int .i64 (x1 + y1),.int .i64 (x2 + y2),.int .i64 (x3 + y3),v 26]) (q28:(fun v w'=>∃ gn,v 28=.slice (some ⟨gn,0,none⟩) 1 1 /\ Blk w' gn 159 #[.int .i64 (x1 + y1),.int .i64 (x2 + y2),.int .i64 (x3 + y3),v 26]) v w1);intro w2 hE;replace hE:(fun v w1 w'=>v 30=v 29 /\ Q1d w' w.heap.size 159 4 Q3g (v 29) (zs ++ [(both x y,v 26)]) /\ w1.grownBy w' (Value.slice Ao zs.length co).ownBlock /\ ((v 29).ownBlock=(Value.slice Ao zs.length co).ownBlock ∨ (v 29).ownBlock=some w1.heap.size)) v w1 w2:=hE;simp only [Flow.acts,Act.put];go_simp;obtain ⟨A,n',c,e26,VK⟩:=q26;obtain ⟨-,YX,Ny,nQ⟩:=hE;have Zq:=Xq.trans hx;have Jy:=U3.out.below Zq;rw [e26] at YX;have Zg:=hid YX;have uj:Hid (Ext w w2):=hid (Below.grown (Rq.out.trans (uz.out.trans Zq)) Ny (by have:=Zq.size; have:=Mv.out; omega) (fun b hb=>(OwnP.Q9f Jy b hb).1))
        have vw:=R3.out.ext Zq;have sg:Hid (Blk w2 g7 159 #[.int .i64 x1,.int .i64 x2,.int .i64 x3,.slice A4 n4 c4]):=hid ((Ny.block g7 vw.lt YK.out).trans vw);have uf:Hid (some g7 ≠ (v 29).ownBlock):=hid (fun e=>by
         rcases nQ with h | h
         . rw [h] at e; exact YK.out e
         . rw [h] at e; have:=vw.lt; injection e with e; omega)
        have D1:Hid (Q0v w2 (zs ++ [((both x y,Value.slice A n' c):PV)])):=hid (Q0v.grown (fun z hz=>by
         rcases List.mem_append.1 hz with hz | hz
         . exact Ub.out.ext Zq z hz
         . obtain rfl:=List.mem_singleton.1 hz
           exact VK) Jy Ny)
        have Rb:Hid ((zs ++ [((both x y,Value.slice A n' c):PV)]).map (·.1)=X1s (ps.map (·.1)) (qs0.map (·.1)) k ++ X2b x (qs0.map (·.1)) (n + 1)):=hid (by rw [LQ.out,<- List.append_assoc,<- Ug.out,List.map_append]; rfl)
        obtain ⟨vr,J6⟩:∃ z,v 29=z:=⟨_,rfl⟩;rw [J6] at Zg uf ⊢;clear hx Xq Zq YX Ny nQ Jy vw VK e26 J6 q25 q27 q28;(repeat clear zq);go_wp2;go_roundw
        case rel=>exact ⟨n + 1,zs ++ [((both x y,Value.slice A n' c):PV)],by omega,by go_num,Zg.out,D1.out,Rb.out,uj.out,sg.out,uf.out⟩
        case measure=>simp [intOf]; omega
     . have hne:n=M:=by omega
       subst hne;go_wp2;go_roundw
       case rel=>exact ⟨k + 1,zs,by omega,by go_num,XK.out,WK.out,by rw [Sj.out,Ug.out,List.length_map,HM.out],Rq.out⟩
       case measure=>simp [intOf]; omega
  . have lj:k=L:=by omega
    subst lj;have Sn:=hid (Q9p wr w.heap.size _ qs kq.out bw.out (by rw [p8.out]; have:=jw.out; omega))
    go_wp2_with (go_at_call 197; refine Sn.out.mono ?_; rintro e w2 ⟨v',zs,rfl,h1,h2,h3,h4⟩; refine halted ?_);have H1:=hid h1;have H2:=hid h2;have H3:=hid h3;have H4:=hid h4;clear h1 h2 h3 h4;unfold Q1o;go_wp2;go_ret;exact ⟨_,zs,rfl,Q1d.weaken H1.out HX.out.size,H2.out,by rw [H3.out,Ly.out,<- iz.out,List.length_map,HL.out],HX.out.trans H4.out⟩
def Part (w:World) (g off:Nat) (sub:Array Value):Prop:=∀ k (hk:k < sub.size),w.cell? ⟨g,off + k,none⟩=some sub[k]
theorem Part.ext {w w':World} {g off:Nat} {sub:Array Value} (h:Part w g off sub) (hx:Ext w w'):Part w' g off sub:=fun k hk=>hx.cell (h k hk)
theorem Y7u {P:Program} {w:World} {g off:Nat} {cs:Array Value} (h:Part w g off cs):(loadCells ⟨g,off,none⟩ cs.size).run P w=.ok cs w:=by
 have gen:∀ (n i:Nat) (acc:Array Value),i + n=cs.size -> acc.toList=cs.toList.take i -> (loadCellsFrom ⟨g,off,none⟩ i n acc).run P w=.ok cs w:=by
  intro n
  induction n with
  | zero =>
    intro i acc hi ha;have:acc=cs:=by
     apply Array.toList_inj.1
     rw [ha,List.take_of_length_le (by simp; omega)]
    subst this;simp [loadCellsFrom]
  | succ n ih =>
    intro i acc hi ha;have Uq:i < cs.size:=by omega
    have h0:=h i Uq;have ea:(⟨g,off,none⟩:Addr).add i=⟨g,off + i,none⟩:=by rw [addr_add]
    rw [loadCellsFrom,ea];simp only [Sem.run_bind,load,Sem.run,h0,Result.andThen_ok];refine ih (i + 1) _ (by omega) ?_
    rw [Array.toList_push,ha,<- Array.getElem_toList (by simpa using Uq),List.take_append_getElem]
 exact gen cs.size 0 #[] (by omega) (by simp)
theorem X7t {P:Program} {w:World} {g off:Nat} {T:TypeId} {cs:Array Value} (h:Part w g off cs) (hA:∀ w,(isAgg T).run P w=.ok true w) (hS:∀ w,(sizeOf T).run P w=.ok cs.size w):(loadVar T ⟨g,off,none⟩).run P w=.ok (.agg cs) w:=by
 unfold loadVar;simp only [Sem.run_bind,hA,Result.andThen_ok,if_true,hS,Y7u h,Sem.run_pure]
theorem X8q {P:Program} {w:World} {o:Oper} {a:Act} {p:Operand} {T:TypeId} {g off:Nat} {cs:Array Value} (Ow:o.op=.load T p) (hA:∀ w,(isAgg T).run P w=.ok true w) (hS:∀ w,(sizeOf T).run P w=.ok cs.size w) (hp:a.eval p=.pointer (some ⟨g,off,none⟩)) (h:Part w g off cs):(execOp a.eval o).run P w=.ok (.value (.agg cs)) w:=by
 unfold execOp;simp only [Ow,hp,Instr.loadAt,Instr.sureAddr,Sem.run_bind,Sem.run_pure,Result.andThen_ok,X7t h hA hS]
theorem Q7c {P:Program} {K:Value -> World -> Prop} {o:Oper} {a:Act} {w:World} (p:Operand) (T:TypeId) (ho:o.op=.load T p) (hA:∀ w,(isAgg T).run P w=.ok true w) {n:Nat} (hS:∀ w,(sizeOf T).run P w=.ok n w)
    {g off:Nat} (hp:a.eval p=.pointer (some ⟨g,off,none⟩)) {cs:Array Value} (hb:Part w g off cs) (hn:cs.size=n) (h:K (.agg cs) w):gives P K ((execOp a.eval o).run P w):=by
 subst hn;rw [X8q ho hA hS hp hb];exact h
theorem Y6y {w:World} {g:Nat} {a b c:Int} {d:Value} (h:Blk w g 159 #[.int .i64 a,.int .i64 b,.int .i64 c,d]):Part w g 1 #[.int .i64 b,.int .i64 c]:=fun k hk=>by
 have:k=0 ∨ k=1:=by have:k < 2:=hk; omega
 rcases this with rfl | rfl
 . exact h.cell 1
 . exact h.cell 2
theorem X4s {a b c:Int} {A:Option Addr} {n d:Nat}:∀ u ∈ (#[Value.int .i64 a,.int .i64 b,.int .i64 c,.slice A n d]:Array Value).toList,u.oneCell'=true:=by
 intro u hu;simp only [List.mem_cons,List.not_mem_nil,or_false] at hu
 rcases hu with rfl | rfl | rfl | rfl <;> rfl
theorem Z1l (w:World) (s:ByteArray):(Instr.buildSlice 157 1 #[(0,.string s)]).run prog w=.ok (.slice (some ⟨w.heap.size,0,none⟩) 1 1) (w.alloc (.cells #[.string s] 9)):=by kernel_rfl
theorem X5p {K:Value -> World -> Prop} {o:Oper} {a:Act} {w:World} (T E:TypeId) (x:Operand) (ho:o.op=.buildSlice T 1 #[(0,x)]) {u:Value} (hx:a.eval x=u) (hr:(Instr.buildSlice T 1 #[(0,u)]).run prog w=.ok (.slice (some ⟨w.heap.size,0,none⟩) 1 1) (w.alloc (.cells #[u] E)))
    (h:K (.slice (some ⟨w.heap.size,0,none⟩) 1 1) (w.alloc (.cells #[u] E))):gives prog K ((execOp a.eval o).run prog w):=by
 unfold execOp;simp only [ho,hx,List.map_toArray,List.map_cons,List.map_nil,Sem.run_bind,hr,Result.andThen_ok,Sem.run_pure];exact h
theorem J2m {w:World} {g:Nat} {k:ByteArray} (h:Blk w g 9 #[.string k]):Q0q w 0 9 .string (.slice (some ⟨g,0,none⟩) 1 1) [k] :=
 ⟨by simp,.inr ⟨g,1,#[.string k],rfl,Nat.zero_le _,h,Nat.le_refl _,by unfold maxLen; omega,by simp,by simp⟩⟩
theorem Z1i (w:World) (x:Plan) (A:Option Addr) (n c gS gT gN gK:Nat) (av bv:Value) (s:Q0b) (t:Nat) (wt:Int) (key:ByteArray) (hc:Q0q w 0 9 .string (.slice A n c) x.closed) (Tv:Z6r x)
    (hS:Blk w gS 34 #[.int .i64 s.limit,av,bv]) (Kv:Q0i w (.agg #[.int .i64 s.limit,av,bv]) s) (hT:w.cell? ⟨gT,0,none⟩=some (.int .i64 (t:Int))) (hN:w.cell? ⟨gN,0,none⟩=some (.int .i64 wt)) (hK:w.cell? ⟨gK,0,none⟩=some (.string key))
    (ht:t < s.ships.length) (hw:0 <= wt /\ wt <= 1000000) (hd:0 <= ix s.ships t /\ ix s.ships t <= 1000) :
    Calls prog 201 #[Z7k x (.slice A n c),.pointer (some ⟨gS,0,none⟩),.pointer (some ⟨gT,0,none⟩),.pointer (some ⟨gN,0,none⟩),.pointer (some ⟨gK,0,none⟩)] w fun e w' =>
     ∃ A' n' c',e=.returned (Z7k ⟨x.weight,x.closings + wt,x.delay + wt * ix s.ships t,x.closed ++ [key]⟩ (.slice A' n' c')) /\ Q0q w' 0 9 .string (.slice A' n' c') (x.closed ++ [key]) /\ Ext w w':=by
 have HC:=hid hc;have Zk:=hid hS;have HT:=hid hT;have HN:=hid hN;have HK:=hid hK;have y6:=hid Tv.l;have Lw:=hid (fun (W:World) (hW:Ext w W)=>Z3h W _ s x.closings x.delay t wt (by obtain ⟨_,_,he,h2⟩:=Kv; exact ⟨_,_,he,h2.ext hW⟩) ht (by have:=Tv.c; omega) (by have:=Tv.d; omega) hw hd)
 obtain ⟨ships,mQ⟩:∃ z,ix s.ships t=z:=⟨_,rfl⟩;obtain ⟨dl,Y5⟩:∃ z,wt * ix s.ships t=z:=⟨_,rfl⟩;rw [Y5] at Lw ⊢;obtain ⟨x1,x2,x3,x4⟩:=x;simp only [Z7k] at *;clear hc Tv hS Kv hT hN hK ht hw hd mQ Y5;obtain ⟨lim,Mz⟩:∃ z,s.limit=z:=⟨_,rfl⟩;rw [Mz] at Zk Lw;clear Mz;go_enter func201,ntmps201;go_wp2_with fail;change Code.wp _ _ _ _ ((w.alloc (.cells #[.int .i64 x1,.int .i64 x2,.int .i64 x3,.slice A n c] 159)).alloc (.cells #[.int .i64 0,.int .i64 0,.int .i64 0,.slice none 0 0] 159));obtain ⟨W,Mq,k0,k1,Rq,eW⟩:=Q4p w 159 #[.int .i64 x1,.int .i64 x2,.int .i64 x3,.slice A n c] 159 #[.int .i64 0,.int .i64 0,.int .i64 0,.slice none 0 0];rw [Mq];clear Mq;have K0:=hid k0;have K1:=hid k1;obtain ⟨gp,lz⟩:∃ z,w.heap.size=z:=⟨_,rfl⟩;have Gy:=hid lz;rw [lz] at K0 K1 eW ⊢;clear k0 k1 lz;have E4:=hid (enters_of (P:=prog) func196 (by kernel_rfl) rfl)
 have Y0:=hid (fun (V:World) g b hB h1 h2=>X8r V g 157 (.slice A n c) b 0 0 x4 [key] hB h1 h2 (by have:=y6.out; simp only [List.length_singleton]; omega))
 have Xq:=(Ext.refl W).drew;refine Flow.Q3q [.p,.w,.p,.w,.w,.w,.w,.w,.p,.w,.w,.w,.w,.w,.p,.last] [0,1,2,3,4,5,6,7,8,9,10,11,12,13,14,15] [[],[0],[],[2],[],[],[],[2,3,4,5,6],[],[8],[],[10],[8,9,10,11],[2,3,4,5,6,7,8,9,10,11,12],[0,1,2,3,4,5,6,7,8,9,10,11,12,13],[0,1,2,3,4,5,6,7,8,9,10,11,12,13,14]] [15]
  [.c 0 (.pointer (some ⟨gp,0,none⟩)),.c 1 (.int .i64 x1),.c 2 (.pointer (some ⟨gp,1,none⟩)),.c 3 (.agg #[.int .i64 x2,.int .i64 x3]),.c 4 (.agg #[.int .i64 lim,av,bv]),.c 5 (.int .i64 (t:Int)),.c 6 (.int .i64 wt),.c 7 (.agg #[.int .i64 (x2 + wt),.int .i64 (x3 + dl)]),.c 8 (.pointer (some ⟨gp,3,none⟩)),.c 9 (.slice A n c),.c 10 (.string key),⟨fun v wz=>(fun v w'=>∃ gn,v 11=.slice (some ⟨gn,0,none⟩) 1 1 /\ Blk w' gn 9 #[.string key]) v wz,by rintro v a b hx ⟨gn,h1,h2⟩; exact ⟨gn,h1,h2.ext hx⟩⟩,⟨fun v wz=>(fun v w'=>∃ gm,v 12=.slice (some ⟨gm,0,none⟩) 2 2 /\ Blk w' gm 157 #[.slice A n c,v 11]) v wz,by rintro v a b hx ⟨gn,h1,h2⟩; exact ⟨gn,h1,h2.ext hx⟩⟩,⟨fun v wz=>(fun v w'=>∃ A' n' c',v 13=.slice A' n' c' /\ Q0q w' 0 9 .string (.slice A' n' c') (x4 ++ [key])) v wz,by rintro v a b hx ⟨A,n,c,h1,h2⟩; exact ⟨A,n,c,h1,h2.below hx⟩⟩,.is 14 (fun v=>.agg #[.int .i64 x1,.int .i64 (x2 + wt),.int .i64 (x3 + dl),v 13]),.none]
  [fun v w1 w'=>Blk w' (gp + 1) 159 #[.int .i64 x1,.int .i64 (x2 + wt),.int .i64 (x3 + dl),v 13] /\ (∀ n,n <= gp + 1 -> Below n w1 w') /\ (∀ k,k ≠ gp + 1 -> w'.heap[k]?=w1.heap[k]?)] (by kernel_rfl) rfl (by kernel_rfl) ⟨?g0,?g1,?g2,?g3,?g4,?g5,?g6,?g7,?g8,?g9,?g10,?g11,?g12,?g13,?g14,?g15,trivial⟩ ?post
 case g0 | g2 | g8=>
  intro v w1 hx;intro bb hbb;subst hbb;refine ⟨_,fun w=>?_,rfl⟩;go_simp
 case g1 | g9=>
  intro v w1 hx;(repeat intro (zq:v _=_));intro bb hbb;subst hbb;have n0:w1.cell? ⟨gp,0,none⟩=some (.int .i64 x1):=(K0.out.ext (Xq.trans hx)).cell 0;have n1:w1.cell? ⟨gp,3,none⟩=some (.slice A n c):=(K0.out.ext (Xq.trans hx)).cell 3;intro K hK;go_simp;exact hK _ _ (Ext.refl _) rfl
 case g3=>
  intro v w1 hx;(repeat intro (zq:v _=_));intro bb hbb;intro K hK;have o1:bb.eval (.tmp 9)=.pointer (some ⟨gp,1,none⟩):=fzg06
  exact Q7c (.tmp 9) _ rfl Y2k Q8o o1 ((Y6y K0.out).ext (Xq.trans hx)) rfl (hK _ _ (Ext.refl _) rfl)
 case g4=>
  intro v w1 hx;intro bb hbb;intro K hK;have o1:bb.eval (.tmp 1)=.pointer (some ⟨gS,0,none⟩):=fze06
  exact Q0k (.tmp 1) _ rfl X7u Q8v o1 (Zk.out.ext (Rq.out.trans (Xq.trans hx))) rfl (hK _ _ (Ext.refl _) rfl)
 case g5 | g6 | g10=>
  intro v w1 hx;intro bb hbb;subst hbb;have n0:w1.cell? ⟨gT,0,none⟩=some (.int .i64 (t:Int)):=(Rq.out.trans (Xq.trans hx)).cell HT.out;have n1:w1.cell? ⟨gN,0,none⟩=some (.int .i64 wt):=(Rq.out.trans (Xq.trans hx)).cell HN.out;have n2:w1.cell? ⟨gK,0,none⟩=some (.string key):=(Rq.out.trans (Xq.trans hx)).cell HK.out;intro K hK;go_simp;exact hK _ _ (Ext.refl _) rfl
 case g7=>
  intro v w1 hx;(repeat intro (zq:v _=_));intro bb hbb;subst hbb;intro K hK;go_simp;refine Q0e (Lw.out w1 (Rq.out.trans (Xq.trans hx))) ?_;rintro e w2 ⟨rfl,Nq⟩;exact ⟨_,rfl,hK _ _ Nq rfl⟩
 case g11=>
  intro v w1 hx;(repeat intro (zq:v _=_));intro bb hbb;intro K hK;have o1:bb.eval (.tmp 17)=.string key:=fzg06
  exact X5p 157 9 (.tmp 17) rfl o1 (Z1l w1 _) (hK _ _ (Ext.box _ _) ⟨_,rfl,Blk.made _ _ _⟩)
 case g12=>
  intro v w1 hx (q8:v 8=_) (q9:v 9=_) (q10:v 10=_) (q11:(fun v w'=>∃ gn,v 11=.slice (some ⟨gn,0,none⟩) 1 1 /\ Blk w' gn 9 #[.string key]) v w1);intro bb hbb;intro K hK;obtain ⟨gn,e11,UK⟩:=q11;have o1:bb.eval (.tmp 16)=.slice A n c:=fzg06
  have o2:bb.eval (.tmp 18)=.slice (some ⟨gn,0,none⟩) 1 1:=fzg06
  exact Q7w 295 157 (.tmp 16) (.tmp 18) rfl o1 o2 (X8i w1 _ _ _ _ _ _) (hK _ _ (Ext.box _ _) ⟨_,rfl,by show Blk _ _ _ #[_,v 11]; rw [e11]; exact Blk.made _ _ _⟩)
 case g13=>
  intro v w1 hx (q2:v 2=_) (q3:v 3=_) (q4:v 4=_) (q5:v 5=_) (q6:v 6=_) (q7:v 7=_) (q8:v 8=_) (q9:v 9=_) (q10:v 10=_) (q11:(fun v w'=>∃ gn,v 11=.slice (some ⟨gn,0,none⟩) 1 1 /\ Blk w' gn 9 #[.string key]) v w1) (q12:(fun v w'=>∃ gm,v 12=.slice (some ⟨gm,0,none⟩) 2 2 /\ Blk w' gm 157 #[.slice A n c,v 11]) v w1);intro bb hbb;intro K hK;obtain ⟨gn,e11,UK⟩:=q11;obtain ⟨gm,e12,TK⟩:=q12;have o1:bb.eval (.tmp 19)=.slice (some ⟨gm,0,none⟩) 2 2:=fzg06
  rw [e11] at TK;have Zq:=Xq.trans hx;refine X9v rfl E4.out o1 (Y0.out w1 gm _ TK (HC.out.below (Rq.out.trans Zq)) (J2m UK)) ?_;rintro e w2 ⟨z,rfl,h1,h2⟩;obtain ⟨A',c',rfl,-⟩:=h1.shape;exact ⟨_,rfl,hK _ _ h2 ⟨A',_,c',rfl,h1.weaken (Nat.zero_le _)⟩⟩
 case g14=>
  intro v w1 hx (q0:v 0=_) (q1:v 1=_) (q2:v 2=_) (q3:v 3=_) (q4:v 4=_) (q5:v 5=_) (q6:v 6=_) (q7:v 7=_) (q8:v 8=_) (q9:v 9=_) (q10:v 10=_) _ _ (q13:(fun v w'=>∃ A' n' c',v 13=.slice A' n' c' /\ Q0q w' 0 9 .string (.slice A' n' c') (x4 ++ [key])) v w1);intro bb hbb;obtain ⟨A',n',c',e13,Q3⟩:=q13;have o1:bb.eval (.tmp 8)=.int .i64 x1:=fzg06
  have o2:bb.eval (.tmp 14)=.agg #[.int .i64 (x2 + wt),.int .i64 (x3 + dl)]:=fzg06
  have o3:bb.eval (.tmp 20)=.slice A' n' c':=fzg06
  refine ⟨.agg #[.int .i64 x1,.int .i64 (x2 + wt),.int .i64 (x3 + dl),v 13],fun w=>?_,rfl⟩;rw [e13];unfold execOp;simp only [List.map_toArray,List.map_cons,List.map_nil,o1,o2,o3];clear o1 o2 o3 hbb;go_simp
 case g15=>
  intro v w1 hx (q0:v 0=_) (q1:v 1=_) (q2:v 2=_) (q3:v 3=_) (q4:v 4=_) (q5:v 5=_) (q6:v 6=_) (q7:v 7=_) (q8:v 8=_) (q9:v 9=_) (q10:v 10=_) _ _ (q13:(fun v w'=>∃ A' n' c',v 13=.slice A' n' c' /\ Q0q w' 0 9 .string (.slice A' n' c') (x4 ++ [key])) v w1) (q14:v 14=.agg #[.int .i64 x1,.int .i64 (x2 + wt),.int .i64 (x3 + dl),v 13]);intro wl hT;obtain rfl:wl=w1:=hT;intro bb hbb;intro K hK;obtain ⟨A',n',c',e13,Q3⟩:=q13;have o1:bb.eval (.tmp 6)=.pointer (some ⟨gp + 1,0,none⟩):=fze06
  have o2:bb.eval (.tmp 21)=.agg #[.int .i64 x1,.int .i64 (x2 + wt),.int .i64 (x3 + dl),v 13]:=fzg06
  exact Q1q (.tmp 6) (.tmp 21) _ rfl X9k o1 o2 (K1.out.ext (Xq.trans hx)) rfl rfl (by rw [e13]; exact X4s) (fun vv w' hb hl ho=>hK _ _ ⟨hb,hl,ho⟩)
 case post =>
  intro v w1 hx;(iterate 11 intro (zq:v _=_));intro (q11:(fun v w'=>∃ gn,v 11=.slice (some ⟨gn,0,none⟩) 1 1 /\ Blk w' gn 9 #[.string key]) v w1) (q12:(fun v w'=>∃ gm,v 12=.slice (some ⟨gm,0,none⟩) 2 2 /\ Blk w' gm 157 #[.slice A n c,v 11]) v w1) (q13:(fun v w'=>∃ A' n' c',v 13=.slice A' n' c' /\ Q0q w' 0 9 .string (.slice A' n' c') (x4 ++ [key])) v w1) (q14:v 14=.agg #[.int .i64 x1,.int .i64 (x2 + wt),.int .i64 (x3 + dl),v 13]);intro w2 hE;replace hE:(fun v w1 w'=>Blk w' (gp + 1) 159 #[.int .i64 x1,.int .i64 (x2 + wt),.int .i64 (x3 + dl),v 13] /\ (∀ n,n <= gp + 1 -> Below n w1 w') /\ (∀ k,k ≠ gp + 1 -> w'.heap[k]?=w1.heap[k]?)) v w1 w2:=hE;simp only [Flow.acts,Act.put];go_simp;obtain ⟨A',n',c',e13,Q3⟩:=q13;obtain ⟨Nj,Wj,cj⟩:=hE;rw [e13] at Nj;have Zq:=Xq.trans hx;have uj:Hid (Below w.heap.size W w2):=hid (Below.trans (Zq.mono (by have:=Gy.out; omega)) (Wj _ (by have:=Gy.out; omega)))
  have T4:Hid (Q0q w2 0 9 .string (.slice A' n' c') (x4 ++ [key])):=hid (by
   have h:=Q0v.off (w:=w1) (w':=w2) (ps:=[((⟨0,0,0,x4 ++ [key]⟩:Plan),Value.slice A' n' c')]) (g:=gp + 1) (fun q hq=>by obtain rfl:=List.mem_singleton.1 hq; exact Q3) (K1.out.ext Zq) (fun k _ hk=>cj k hk)
   exact h _ (List.mem_singleton.2 rfl))
  clear hx Xq Zq Wj cj Q3 q11 q12 q14;(repeat clear zq);go_wp2;refine bodyPost_ret (Q2e results201 rfl Nj J7x X9k) rfl ?_;exact ⟨A',n',c',rfl,T4.out,Below.trans Rq.out uj.out⟩
def X9d (s:Q0b) (t:Nat) (wt:Int) (key:ByteArray) (x:Plan):Plan:=⟨x.weight,x.closings + wt,x.delay + wt * ix s.ships t,x.closed ++ [key]⟩
theorem Y4r (w:World) (B:Nat) (v:Value) (ps:List PV) (gS gT gN gK:Nat) (av bv:Value) (s:Q0b) (t:Nat) (wt:Int) (key:ByteArray) (hv:Q1d w B 159 4 Q3g v ps) (dx:Q0v w ps) (Tv:∀ q ∈ ps,Z6r q.1) (hl:ps.length <= 80000)
    (hS:Blk w gS 34 #[.int .i64 s.limit,av,bv]) (Kv:Q0i w (.agg #[.int .i64 s.limit,av,bv]) s) (hT:w.cell? ⟨gT,0,none⟩=some (.int .i64 (t:Int))) (hN:w.cell? ⟨gN,0,none⟩=some (.int .i64 wt)) (hK:w.cell? ⟨gK,0,none⟩=some (.string key))
    (ht:t < s.ships.length) (hw:0 <= wt /\ wt <= 1000000) (hd:0 <= ix s.ships t /\ ix s.ships t <= 1000) :
    Calls prog 200 #[v,.func (.func 201) #[] #[.pointer (some ⟨gS,0,none⟩),.pointer (some ⟨gT,0,none⟩),.pointer (some ⟨gN,0,none⟩),.pointer (some ⟨gK,0,none⟩)]] w fun e w' =>
     ∃ x qs,e=.returned x /\ Q1d w' w.heap.size 159 4 Q3g x qs /\ Q0v w' qs /\ qs.map (·.1)=(ps.map (·.1)).map (X9d s t wt key) /\ Ext w w':=by
 obtain ⟨i0,hi,dq,fq,Zj⟩:=info_parts Y8s;have T3:=hid dx;have A8:=hid Tv;have HD:Hid (∀ (W:World) (x:Plan) A n c,Ext w W -> Z6r x -> Q0q W 0 9 .string (.slice A n c) x.closed -> Calls prog 201 #[.agg #[.int .i64 x.weight,.int .i64 x.closings,.int .i64 x.delay,.slice A n c],.pointer (some ⟨gS,0,none⟩),.pointer (some ⟨gT,0,none⟩),.pointer (some ⟨gN,0,none⟩),.pointer (some ⟨gK,0,none⟩)] W fun e w' =>
     ∃ A' n' c',e=.returned (.agg #[.int .i64 (X9d s t wt key x).weight,.int .i64 (X9d s t wt key x).closings,.int .i64 (X9d s t wt key x).delay,.slice A' n' c']) /\ Q0q w' 0 9 .string (.slice A' n' c') (X9d s t wt key x).closed /\ Ext W w'):=hid (fun W x A n c hW hx ho =>
  Z1i W x A n c gS gT gN gK av bv s t wt key ho hx (hS.ext hW) (by obtain ⟨_,_,he,h2⟩:=Kv; exact ⟨_,_,he,h2.ext hW⟩) (hW.cell hT) (hW.cell hN) (hW.cell hK) ht hw hd)
 obtain ⟨A,cv,nj,Gj⟩:=Q8c hv;subst nj;obtain ⟨L,hL⟩:∃ L,ps.length=L:=⟨_,rfl⟩;have HL:=hid hL;rw [hL] at hl ⊢;obtain ⟨f,hf⟩:∃ f,X9d s t wt key=f:=⟨_,rfl⟩;rw [hf] at HD ⊢;clear hv dx Tv hL hS Kv hT hN hK ht hw hd hf;go_enter func200,ntmps200;go_wp2
 go_loopw [5,10] (fun o i wr=>∃ (k:Nat) (qs:List PV),k <= L /\ i=.int .i64 k /\ qs.length=k /\ Q1d wr w.heap.size 159 4 Q3g o qs /\ Q0v wr qs /\ qs.map (·.1)=((ps.map (·.1)).take k).map f /\ Ext w wr) (fun _ i _=>L - (intOf i).toNat)
 case atStart=>exact ⟨0,[],Nat.zero_le _,rfl,rfl,Q1d.nil _ _ _ _ _,Q0v.nil _,rfl,Ext.refl _⟩
 case round =>
  obtain ⟨k,qs,hk,rfl,xz,Yq,dx,Ez,hx⟩:=hrel;have Ly:=hid Ez;have HX:=hid hx;have kq:=hid Yq;have bw:=hid dx;have Z2:=hid xz
  by_cases Uq:k < L
  . have Oj:k < ps.length:=by rw [HL.out]; exact Uq
    have zj:(k:Int) < L:=by omega
    obtain ⟨gb,rfl,Wq⟩:=Gj.out k Oj;have e0:=hx.cell (Wq 0 (by omega))
    have e1:=hx.cell (Wq 1 (by omega))
    have e2:=hx.cell (Wq 2 (by omega))
    have e3:=hx.cell (Wq 3 (by omega))
    obtain ⟨A4,n4,c4,ox⟩:=T3.out.shape (List.getElem_mem Oj);have jx:(ps.map (·.1))[k]?=some ps[k].1:=by rw [List.getElem?_map,List.getElem?_eq_getElem Oj]; rfl
    have hcl:=T3.out ps[k] (List.getElem_mem Oj);have Tv:=A8.out ps[k] (List.getElem_mem Oj);obtain ⟨qk,Jx⟩:∃ z,ps[k]=z:=⟨_,rfl⟩;rw [Jx] at e0 e1 e2 e3 ox hcl jx Tv;obtain ⟨x,xv⟩:=qk;replace ox:xv=.slice A4 n4 c4:=ox;subst ox;have Sj:Hid (((ps.map (·.1)).take (k + 1)).map f=((ps.map (·.1)).take k).map f ++ [f x]):=hid (by
     obtain ⟨hk',he⟩:=List.getElem?_eq_some_iff.1 jx;rw [List.take_succ_eq_append_getElem hk',List.map_append,he]; rfl)
    rw [Nat.add_zero] at e0;have pz:=hid hcl;have B7:Hid (Z6r x):=hid Tv;have lk:=hid (fun (W:World) (hW:Ext wr W)=>HD.out W x A4 n4 c4 (HX.out.trans hW) B7.out (pz.out.below (HX.out.trans hW)));obtain ⟨x1,aq⟩:∃ z,x.weight=z:=⟨_,rfl⟩;obtain ⟨x2,Nq⟩:∃ z,x.closings=z:=⟨_,rfl⟩;obtain ⟨x3,yj⟩:∃ z,x.delay=z:=⟨_,rfl⟩;rw [aq,Nq,yj] at lk;obtain ⟨y,hy⟩:∃ z,f x=z:=⟨_,rfl⟩;rw [hy] at lk Sj;obtain ⟨y1,Cv⟩:∃ z,y.weight=z:=⟨_,rfl⟩;obtain ⟨y2,Og⟩:∃ z,y.closings=z:=⟨_,rfl⟩;obtain ⟨y3,P5⟩:∃ z,y.delay=z:=⟨_,rfl⟩;have Dz:=hid (show y.weight=y1 /\ y.closings=y2 /\ y.delay=y3 from ⟨Cv,Og,P5⟩)
    rw [Cv,Og,P5] at lk;replace e0:wr.cell? ⟨gb,k * 4,none⟩=some (.int .i64 x1):=by rw [<- aq]; exact e0
    replace e1:wr.cell? ⟨gb,k * 4 + 1,none⟩=some (.int .i64 x2):=by rw [<- Nq]; exact e1
    replace e2:wr.cell? ⟨gb,k * 4 + 2,none⟩=some (.int .i64 x3):=by rw [<- yj]; exact e2
    replace e3:wr.cell? ⟨gb,k * 4 + 3,none⟩=some (.slice A4 n4 c4):=e3;have Bq:=Ext.box wr (.cells #[.int .i64 x1,.int .i64 x2,.int .i64 x3,.slice A4 n4 c4] 159);have K3:=Blk.made wr 159 #[.int .i64 x1,.int .i64 x2,.int .i64 x3,.slice A4 n4 c4];have d0:=(K3).cell 0;have d1:=(K3).cell 1;have d2:=(K3).cell 2;have d3:=(K3).cell 3;simp only [Go.Tw.gA,Go.Tw.gB,Go.Tw.gC] at d0 d1 d2 d3;have jq:=hid Bq;have Zy:Hid (∀ (W:World) gn V,Blk W gn 159 #[.int .i64 y1,.int .i64 y2,.int .i64 y3,V] -> ∀ j u,(Q3g (y,V))[j]?=some u -> W.cell? ((⟨gn,0,none⟩:Addr).add j)=some u):=hid (fun W gn V hb=>by unfold Q3g; dsimp only; rw [Dz.out.1,Dz.out.2.1,Dz.out.2.2]; exact Q6d hb)
    have dj:Hid (∀ A n c,∀ u ∈ Q3g (y,.slice A n c),u.oneCell'=true):=hid (fun A n c=>by unfold Q3g; simp [Value.oneCell'])
    have Gg:Hid (qs.length + 1 <= 100000):=hid (by omega)
    have Mv:=hid HX.out.size;obtain ⟨Ao,co,ay,-⟩:=Yq.shape;subst ay;clear Wq Jx aq Nq yj hy Cv Og P5 Bq K3 Yq dx Ez hx hcl Tv jx Oj xz
    go_light
    go_wp2_with (first | (refine (lk.out _ jq.out).mono ?_; rintro e w5 ⟨A',n',c',rfl,hu,yq⟩; have HU:=hid hu; have vq:=hid (jq.out.trans yq); clear hu yq) | (refine Q2i (o:=⟨some 19,_,_,_,_,_⟩) rfl ?_; refine Q2y (.tmp 14) (.tmp 18) 160 rfl w.heap.size 159 i0 (.agg #[.int .i64 0,.int .i64 0,.int .i64 0,.slice none 0 0]) 4 48 underlying160 hi dq fq Zj rfl (by decide) Q3g Q4o _ qs (y,.slice A' n' c') rfl (kq.out.below (vq.out.trans (Ext.box _ _))) ⟨w5.heap.size,0,none⟩ 1 rfl (Zy.out _ _ _ (Blk.made _ _ _)) (dj.out _ _ _) Gg.out (by decide) (by have h1:=(vq.out.trans (Ext.box w5 (.cells #[.int .i64 y1,.int .i64 y2,.int .i64 y3,.slice A' n' c'] 159))).size; have h2:=Mv.out; omega) ?_; intro v' w9 Oq Pq))
    have Zq:=vq.out.trans (Ext.box w5 (.cells #[.int .i64 y1,.int .i64 y2,.int .i64 y3,.slice A' n' c'] 159));have Jy:=kq.out.below Zq;have T4:=hid Oq;have uj:Hid (Ext w w9):=hid (Below.grown (HX.out.trans Zq) Pq (by have:=Zq.size; have:=Mv.out; omega) (fun b hb=>(OwnP.Q9f Jy b hb).1))
    have D1:Hid (Q0v w9 (qs ++ [((y,Value.slice A' n' c'):PV)])):=hid (Q0v.grown (fun z hz=>by
     rcases List.mem_append.1 hz with hz | hz
     . exact bw.out.ext Zq z hz
     . obtain rfl:=List.mem_singleton.1 hz
       exact HU.out.below (Ext.box w5 (.cells #[.int .i64 y1,.int .i64 y2,.int .i64 y3,.slice A' n' c'] 159))) Jy Pq)
    have Rb:Hid ((qs ++ [((y,Value.slice A' n' c'):PV)]).map (·.1)=((ps.map (·.1)).take (k + 1)).map f):=hid (by rw [Sj.out,<- Ly.out,List.map_append]; rfl)
    have Qb:Hid ((qs ++ [((y,Value.slice A' n' c'):PV)]).length=k + 1):=hid (by rw [List.length_append,Z2.out]; rfl)
    clear Zq Jy Oq Pq;go_wp2;go_roundw
    case rel=>exact ⟨k + 1,qs ++ [((y,Value.slice A' n' c'):PV)],by omega,by go_num,Qb.out,T4.out,D1.out,Rb.out,uj.out⟩
    case measure=>simp [intOf]; omega
  . have lj:k=L:=by omega
    subst lj;clear Yq dx Ez hx xz;go_wp2;go_ret;exact ⟨_,rfl,qs,kq.out,bw.out,by have h:=Ly.out; rw [List.take_of_length_le (by rw [List.length_map,HL.out]; omega)] at h; simpa using h,HX.out⟩
end Go.Proofs
namespace Go.Tw
open Go.RowKit Go.Flow
def encR (r:Runner):List Value:=[.int .i64 (r.member:Int),.int .i64 r.level,.bool r.dry]
theorem Q8l (r:Runner):(encR r).length=3:=rfl
theorem Y5o (r:Runner):∀ u ∈ encR r,u.oneCell'=true:=by unfold encR; simp [Value.oneCell']
end Go.Tw
namespace Go.Proofs
open Go.RowKit Go.Tw Go.Flow Tryz
attribute [local go_sem] Oper.semAt_some
theorem Tryz.J5m (w:World):(isAgg 233).run prog w=.ok true w:=by kernel_rfl
theorem Tryz.Y2s (w:World):(sizeOf 233).run prog w=.ok 3 w:=by kernel_rfl
theorem Tryz.J1r:(prog.info? 233).map (fun i=>(i.zero,i.size,i.bytes))=some (some (.agg #[.int .i64 0,.int .i64 0,.bool false]),3,24):=by kernel_rfl
theorem J7k {w:World} {M:Option Addr} {s:Q0b} {k b off Sq Jq Cq:Nat} {X Y Z:Option Addr} (h:J2b w M s k b off Sq Jq Cq X Y Z) :
    Part w b (off + k * 5) #[.string (Q1s s.members k),.int .i64 (Q0n s.members k),.slice X (Q0c s.members k).length Sq,.slice Y (Q1c s.members k).length Jq,.slice Z (Q1f s.members k).length Cq]:=fun j hj=>by
 have:j=0 ∨ j=1 ∨ j=2 ∨ j=3 ∨ j=4:=by have:j < 5:=hj; omega
 rcases this with rfl | rfl | rfl | rfl | rfl
 . exact h.e0
 . exact h.e1
 . exact h.e2
 . exact h.e3
 . exact h.e4
theorem Y5l {a b:Int} {c:Bool}:∀ u ∈ (#[Value.int .i64 a,.int .i64 b,.bool c]:Array Value).toList,u.oneCell'=true:=by
 intro u hu;simp only [List.mem_cons,List.not_mem_nil,or_false] at hu
 rcases hu with rfl | rfl | rfl <;> rfl
theorem Z6i (w:World) (r:Runner) (gS gT gC:Nat) (av bv:Value) (s:Q0b) (t:Nat) (cl:Bool) (hS:Blk w gS 34 #[.int .i64 s.limit,av,bv]) (Kv:Q0i w (.agg #[.int .i64 s.limit,av,bv]) s) (hT:w.cell? ⟨gT,0,none⟩=some (.int .i64 (t:Int))) (hC:w.cell? ⟨gC,0,none⟩=some (.bool cl))
    (hV:Q0r s) (ht:t < s.ships.length) (hk:r.member < s.members.length) (hl:0 <= r.level /\ r.level <= 100000) :
    Calls prog 231 #[.agg #[.int .i64 (r.member:Int),.int .i64 r.level,.bool r.dry],.pointer (some ⟨gS,0,none⟩),.pointer (some ⟨gT,0,none⟩),.pointer (some ⟨gC,0,none⟩)] w fun e w' =>
     e=.returned (.agg #[.int .i64 ((mv1 s t cl r).member:Int),.int .i64 (mv1 s t cl r).level,.bool (mv1 s t cl r).dry]) /\ Ext w w':=by
 have Zk:=hid hS;have HT:=hid hT;have HC:=hid hC;obtain ⟨k,K7⟩:∃ z,r.member=z:=⟨_,rfl⟩;have y7:Hid ((mv1 s t cl r).member=k /\ (mv1 s t cl r).level=((Q1g s k).stepT t r.level cl).2 /\ (mv1 s t cl r).dry=(r.dry && decide (((Q1g s k).stepT t r.level cl).1 <= s.limit))):=hid (by rw [<- K7]; exact ⟨rfl,rfl,rfl⟩)
 rw [K7] at hk ⊢;rw [y7.out.1,y7.out.2.1,y7.out.2.2];obtain ⟨lv,Kw⟩:∃ z,r.level=z:=⟨_,rfl⟩;obtain ⟨dry,SK⟩:∃ z,r.dry=z:=⟨_,rfl⟩;rw [Kw] at hl ⊢;rw [SK];clear y7 K7 Kw SK;have RK:=Kv;obtain ⟨_,_,he,h2⟩:=RK;injection he with he;injection he with he;simp only [List.cons.injEq,and_true,true_and] at he;obtain ⟨rfl,rfl⟩:=he;obtain ⟨A,Tq,rfl,-,-,-⟩:=h2.ships.opened;obtain ⟨M,Vq,rfl,-,-,-⟩:=h2.members.opened;obtain ⟨b,off,Sq,Jq,Cq,X,Y,Z,hm⟩:=Q3e h2.members hk;obtain rfl:=hm.addr;have Vj:=X1t hV hk (n:=s.ships.length) (Nat.le_refl _);have Sj:=hid (fun (W:World) (hW:Ext w W)=>Y7p W _ (Q1g s k) t lv cl (hm.mem hW) (by have:=Vj.out; omega) (by have:=Vj.inf; omega) hl (Vj.bd t (by have:=Vj.inf; omega)))
 have N6:=hid (J7k hm);obtain ⟨pk,jx⟩:∃ z,((Q1g s k).stepT t lv cl).1=z:=⟨_,rfl⟩;obtain ⟨nl,S3⟩:∃ z,((Q1g s k).stepT t lv cl).2=z:=⟨_,rfl⟩;rw [jx,S3] at Sj ⊢;obtain ⟨nm,Aj⟩:∃ x,Q1s s.members k=x:=⟨_,rfl⟩;obtain ⟨wt,lq⟩:∃ x,Q0n s.members k=x:=⟨_,rfl⟩;obtain ⟨lc,vj⟩:∃ x,(Q0c s.members k).length=x:=⟨_,rfl⟩;obtain ⟨lo,Sx⟩:∃ x,(Q1c s.members k).length=x:=⟨_,rfl⟩;obtain ⟨li,mj⟩:∃ x,(Q1f s.members k).length=x:=⟨_,rfl⟩;rw [Aj,lq,vj,Sx,mj] at Sj N6;obtain ⟨lim,Mz⟩:∃ z,s.limit=z:=⟨_,rfl⟩;rw [Mz] at Zk ⊢;have zj:(k:Int) < s.members.length:=by omega
 clear hS Kv hT hC hV ht hl h2 hm Vj jx S3 Aj lq vj Sx mj Mz;go_enter func231,ntmps231;go_wp2_with fail;change Code.wp _ _ _ _ ((w.alloc (.cells #[.int .i64 (k:Int),.int .i64 lv,.bool dry] 233)).alloc (.cells #[.int .i64 0,.int .i64 0,.bool false] 233));obtain ⟨W,Mq,k0,k1,Rq,eW⟩:=Q4p w 233 #[.int .i64 (k:Int),.int .i64 lv,.bool dry] 233 #[.int .i64 0,.int .i64 0,.bool false];rw [Mq];clear Mq;have K0:=hid k0;have K1:=hid k1;obtain ⟨gp,lz⟩:∃ z,w.heap.size=z:=⟨_,rfl⟩;have Gy:=hid lz;rw [lz] at K0 K1 eW ⊢;clear k0 k1 lz;have Xq:=(Ext.refl W).drew;refine Flow.Q1h [.p,.w,.p,.w,.p,.w,.w,.p,.w,.w,.w,.p,.p,.p,.p,.p] [0,1,2,3,4,5,6,7,8,9,10,11,12,13,14,15] [[],[0],[],[2],[1,3],[4],[],[],[7],[],[5,6,8,9],[10],[11],[11],[0,1,2,3,4,5,6,7,8,9,10,11,12],[0,1,2,3,4,5,6,7,8,9,10,11,12,13,14]]
  [.c 0 (.pointer (some ⟨gS,2,none⟩)),.c 1 (.slice (some ⟨b,off,none⟩) s.members.length Vq),.c 2 (.pointer (some ⟨gp,0,none⟩)),.c 3 (.int .i64 (k:Int)),.c 4 (.pointer (some ⟨b,off + k * 5,none⟩)),.c 5 (.agg #[.string nm,.int .i64 wt,.slice X lc Sq,.slice Y lo Jq,.slice Z li Cq]),.c 6 (.int .i64 (t:Int)),.c 7 (.pointer (some ⟨gp,1,none⟩)),.c 8 (.int .i64 lv),.c 9 (.bool cl),.c 10 (.tuple #[.int .i64 pk,.int .i64 nl]),.c 11 (.tuple #[.int .i64 pk,.int .i64 nl]),.c 12 (.int .i64 pk),.c 13 (.int .i64 nl),.c 14 (.int .i64 pk),.c 15 (.int .i64 nl)]
  (by kernel_rfl) rfl (by kernel_rfl) ⟨?g0,?g1,?g2,?g3,?g4,?g5,?g6,?g7,?g8,?g9,?g10,?g11,?g12,?g13,?g14,?g15,trivial⟩ ?post
 case g0 | g2 | g7=>
  intro v w1 hx;intro bb hbb;subst hbb;refine ⟨_,fun w=>?_,rfl⟩;go_simp
 case g1 | g3 | g8=>
  intro v w1 hx;(repeat intro (zq:v _=_));intro bb hbb;subst hbb;have n0:w1.cell? ⟨gS,2,none⟩=some (.slice (some ⟨b,off,none⟩) s.members.length Vq):=(Zk.out.ext (Rq.out.trans (Xq.trans hx))).cell 2;have n1:w1.cell? ⟨gp,0,none⟩=some (.int .i64 (k:Int)):=(K0.out.ext (Xq.trans hx)).cell 0;have n2:w1.cell? ⟨gp,1,none⟩=some (.int .i64 lv):=(K0.out.ext (Xq.trans hx)).cell 1;intro K hK;go_simp;exact hK _ _ (Ext.refl _) rfl
 case g4 | g11 | g12 | g13 | g14 | g15=>
  intro v w1 hx;(repeat intro (zq:v _=_));intro bb hbb;subst hbb;refine ⟨_,fun w=>?_,rfl⟩;go_simp
 case g5=>
  intro v w1 hx;(repeat intro (zq:v _=_));intro bb hbb;intro K hK;have o1:bb.eval (.tmp 13)=.pointer (some ⟨b,off + k * 5,none⟩):=fzg06
  exact Q7c (.tmp 13) _ rfl Z6e Y3r o1 (N6.out.ext (Rq.out.trans (Xq.trans hx))) rfl (hK _ _ (Ext.refl _) rfl)
 case g6 | g9=>
  intro v w1 hx;intro bb hbb;subst hbb;have n0:w1.cell? ⟨gT,0,none⟩=some (.int .i64 (t:Int)):=(Rq.out.trans (Xq.trans hx)).cell HT.out;have n1:w1.cell? ⟨gC,0,none⟩=some (.bool cl):=(Rq.out.trans (Xq.trans hx)).cell HC.out;intro K hK;go_simp;exact hK _ _ (Ext.refl _) rfl
 case g10=>
  intro v w1 hx;(repeat intro (zq:v _=_));intro bb hbb;subst hbb;intro K hK;go_simp;refine Q0e (Sj.out w1 (Rq.out.trans (Xq.trans hx))) ?_;rintro e w2 ⟨rfl,Nq⟩;exact ⟨_,rfl,hK _ _ Nq rfl⟩
 case post =>
  intro v w1 hx;(iterate 14 intro (zq:v _=_));intro (q14:v 14=_) (q15:v 15=_);simp only [Flow.All,Flow.acts,Act.put];go_simp;have kx:=hid (Rq.out.trans (Xq.trans hx));have k0:=K0.out.ext (Xq.trans hx);have k1:=K1.out.ext (Xq.trans hx);have kS:=Zk.out.ext kx.out;have c0:=(k0).cell 0;have c1:=(k0).cell 1;have c2:=(k0).cell 2;simp only [Go.Tw.gA,Go.Tw.gB,Go.Tw.gC] at c0 c1 c2;have s0:=kS.cell 0;simp only [Go.Tw.gA,Go.Tw.gB] at s0;have qz:Hid (w.heap.size <= gp):=hid (by have:=Gy.out; omega)
  clear hx Xq kS;(repeat clear zq);cases dry with
  | true =>
    by_cases nQ:pk <= lim
    . have Pb:decide (pk <= lim)=true:=by simp [nQ]
      go_wp2_with (refine Q0t rfl _ _ _ rfl Y2s rfl rfl k1 rfl rfl Y5l ?_; intro w9 Nj Wj cj);refine bodyPost_ret (Q2e results231 rfl Nj J5m Y2s) rfl ?_;exact ⟨by first | rfl | simp [Pb],Below.trans kx.out (Wj _ (by have:=qz.out; omega))⟩
    . have Pb:decide (pk <= lim)=false:=by simp [nQ]
      go_wp2_with (refine Q0t rfl _ _ _ rfl Y2s rfl rfl k1 rfl rfl Y5l ?_; intro w9 Nj Wj cj);refine bodyPost_ret (Q2e results231 rfl Nj J5m Y2s) rfl ?_;exact ⟨by first | rfl | simp [Pb],Below.trans kx.out (Wj _ (by have:=qz.out; omega))⟩
  | false =>
    go_wp2_with (refine Q0t rfl _ _ _ rfl Y2s rfl rfl k1 rfl rfl Y5l ?_; intro w9 Nj Wj cj);refine bodyPost_ret (Q2e results231 rfl Nj J5m Y2s) rfl ?_;exact ⟨rfl,Below.trans kx.out (Wj _ (by have:=qz.out; omega))⟩
end Go.Proofs
namespace Go.Tw
open Go.RowKit Go.Flow
def Lev (t:Nat) (l:List Runner):Prop:=∀ r ∈ l,0 <= r.level /\ r.level <= 1024 * (t:Int)
theorem Q1d.split {α:Type} {w:World} {B k:Nat} {e:TypeId} {enc:α -> List Value} {v:Value} {l:List α} (h:Q1d w B e k enc v l) :
    (v=.slice none 0 0 /\ l=[]) ∨ ∃ g Qq cur,v=.slice (some ⟨g,0,none⟩) l.length Qq /\ B <= g /\ Blk w g e cur /\ l.length <= Qq /\ Qq <= maxLen /\ cur.size=Qq * k /\ cur.toList.take (l.length * k)=l.flatMap enc:=by
 obtain ⟨h1,h2⟩:=h
 rcases h2 with ⟨rfl,h0⟩ | ⟨g,Qq,cur,rfl,Ux,hg,Kq,G1,oq,ht⟩
 . exact .inl ⟨rfl,List.length_eq_zero_iff.1 h0⟩
 . exact .inr ⟨g,Qq,cur,rfl,Ux,hg,Kq,G1,oq,ht⟩
theorem Q1d.Q9f {α:Type} {w:World} {B k:Nat} {e:TypeId} {enc:α -> List Value} {v:Value} {l:List α} (h:Q1d w B e k enc v l):∀ b,v.ownBlock=some b -> B <= b /\ b < w.heap.size /\ ∃ cs,Blk w b e cs:=by
 intro b hb
 rcases h.split with ⟨rfl,_⟩ | ⟨g,Qq,cur,rfl,Ux,hg,_⟩
 . cases hb
 . cases hb; exact ⟨Ux,hg.lt,_,hg⟩
theorem Q1d.reads {α:Type} {w:World} {B k:Nat} {e:TypeId} {enc:α -> List Value} {v:Value} {l:List α} (hk:∀ x,(enc x).length=k) (h:Q1d w B e k enc v l):∃ A cv,v=.slice A l.length cv /\ Hid (∀ j (hj:j < l.length),∃ gb,A=some ⟨gb,0,none⟩ /\ ∀ i,i < k -> w.cell? ⟨gb,j * k + i,none⟩=(enc l[j])[i]?):=by
 rcases h.split with ⟨rfl,h0⟩ | ⟨gb,Qq,cur,rfl,_,hb,_,_,_,ey⟩
 . exact ⟨none,0,by rw [h0]; rfl,hid (fun j hj=>by rw [h0] at hj; simp at hj)⟩
 . refine ⟨_,Qq,rfl,hid (fun j hj=>⟨gb,rfl,fun i hi=>?_⟩)⟩
   have hm:(j + 1) * k <= l.length * k:=Nat.mul_le_mul_right _ hj;rw [Nat.succ_mul] at hm;rw [hb.cell,<- flat_get hk l j i hj hi,<- ey,List.getElem?_take,if_pos (by omega)]
   simp
end Go.Tw
namespace Go.Proofs
open Go.RowKit Go.Tw Go.Flow Tryz
attribute [local go_sem] Oper.semAt_some
theorem J0x {s:Q0b} (hV:Q0r s) {t:Nat} (ht:t < s.ships.length) {c:Bool} {l:List Runner} (hk:Known s l) (hl:Lev t l):Lev (t + 1) (l.map (mv1 s t c)):=by
 intro r hr;obtain ⟨q,hq,rfl⟩:=List.mem_map.1 hr;have Vj:=X1t hV (hk q hq) (n:=s.ships.length) (Nat.le_refl _);exact Z4a (hl q hq) (Vj.bd t (by have:=Vj.inf; omega))
theorem Y4b (w:World) (B:Nat) (v:Value) (ps:List Runner) (gS gT gC:Nat) (av bv:Value) (s:Q0b) (t:Nat) (cl:Bool) (hv:Q1d w B 233 3 encR v ps) (rj:Known s ps) (Kw:Lev t ps) (hl:ps.length <= 80000)
    (hS:Blk w gS 34 #[.int .i64 s.limit,av,bv]) (Kv:Q0i w (.agg #[.int .i64 s.limit,av,bv]) s) (hT:w.cell? ⟨gT,0,none⟩=some (.int .i64 (t:Int))) (hC:w.cell? ⟨gC,0,none⟩=some (.bool cl))
    (hV:Q0r s) (ht:t < s.ships.length) :
    Calls prog 230 #[v,.func (.func 231) #[] #[.pointer (some ⟨gS,0,none⟩),.pointer (some ⟨gT,0,none⟩),.pointer (some ⟨gC,0,none⟩)]] w fun e w' =>
     ∃ x,e=.returned x /\ Q1d w' w.heap.size 233 3 encR x (moved s t cl ps) /\ Ext w w':=by
 obtain ⟨i0,hi,dq,fq,Zj⟩:=info_parts J1r;have h6:=hV.tides;have HD:Hid (∀ (W:World) (x:Runner),Ext w W -> x ∈ ps -> Calls prog 231 #[.agg #[.int .i64 (x.member:Int),.int .i64 x.level,.bool x.dry],.pointer (some ⟨gS,0,none⟩),.pointer (some ⟨gT,0,none⟩),.pointer (some ⟨gC,0,none⟩)] W fun e w' =>
     e=.returned (.agg #[.int .i64 ((mv1 s t cl x).member:Int),.int .i64 (mv1 s t cl x).level,.bool (mv1 s t cl x).dry]) /\ Ext W w'):=hid (fun W x hW hx =>
  Z6i W x gS gT gC av bv s t cl (hS.ext hW) (by obtain ⟨_,_,he,h2⟩:=Kv; exact ⟨_,_,he,h2.ext hW⟩) (hW.cell hT) (hW.cell hC) hV ht (rj x hx) (by have:=Kw x hx; omega))
 obtain ⟨A,cv,nj,Gj⟩:=hv.reads Q8l;subst nj;obtain ⟨L,hL⟩:∃ L,ps.length=L:=⟨_,rfl⟩;have HL:=hid hL;rw [hL] at hl ⊢;have dz:Hid ((ps.take L).map (mv1 s t cl)=moved s t cl ps):=hid (by rw [Y4n,List.take_of_length_le (by omega)])
 obtain ⟨f,hf⟩:∃ f,mv1 s t cl=f:=⟨_,rfl⟩;rw [hf] at HD dz;obtain ⟨res,QK⟩:∃ z,moved s t cl ps=z:=⟨_,rfl⟩;rw [QK] at dz ⊢;clear hv rj Kw hL hS Kv hT hC hV ht hf QK h6;go_enter func230,ntmps230;go_wp2
 go_loopw [5,10] (fun o i wr=>∃ (k:Nat),k <= L /\ i=.int .i64 k /\ Q1d wr w.heap.size 233 3 encR o ((ps.take k).map f) /\ Ext w wr) (fun _ i _=>L - (intOf i).toNat)
 case atStart=>exact ⟨0,Nat.zero_le _,rfl,Q1d.nil _ _ _ _ _,Ext.refl _⟩
 case round =>
  obtain ⟨k,hk,rfl,Yq,hx⟩:=hrel;have HX:=hid hx;have kq:=hid Yq
  by_cases Uq:k < L
  . have Oj:k < ps.length:=by rw [HL.out]; exact Uq
    have zj:(k:Int) < L:=by omega
    obtain ⟨gb,rfl,Wq⟩:=Gj.out k Oj;have e0:=hx.cell (Wq 0 (by omega))
    have e1:=hx.cell (Wq 1 (by omega))
    have e2:=hx.cell (Wq 2 (by omega))
    have Y2:=List.getElem_mem Oj;obtain ⟨x,Jx⟩:∃ z,ps[k]=z:=⟨_,rfl⟩;have Sj:Hid ((ps.take (k + 1)).map f=(ps.take k).map f ++ [f x]):=hid (by
     rw [List.take_succ_eq_append_getElem Oj,List.map_append,Jx]; rfl)
    have Gg:Hid (((ps.take k).map f).length + 1 <= 100000):=hid (by rw [List.length_map,List.length_take]; omega)
    rw [Jx] at e0 e1 e2 Y2;have lk:=hid (fun (W:World) (hW:Ext wr W)=>HD.out W x (HX.out.trans hW) Y2);rw [Nat.add_zero] at e0;obtain ⟨x1,aq⟩:∃ z,x.member=z:=⟨_,rfl⟩;obtain ⟨x2,Nq⟩:∃ z,x.level=z:=⟨_,rfl⟩;obtain ⟨x3,yj⟩:∃ z,x.dry=z:=⟨_,rfl⟩;rw [aq,Nq,yj] at lk;obtain ⟨y,hy⟩:∃ z,f x=z:=⟨_,rfl⟩;rw [hy] at lk Sj;obtain ⟨zs,Dw⟩:∃ z,(ps.take k).map f=z:=⟨_,rfl⟩;rw [Dw] at Sj Gg kq;obtain ⟨y1,Cv⟩:∃ z,y.member=z:=⟨_,rfl⟩;obtain ⟨y2,Og⟩:∃ z,y.level=z:=⟨_,rfl⟩;obtain ⟨y3,P5⟩:∃ z,y.dry=z:=⟨_,rfl⟩;have Dz:=hid (show y.member=y1 /\ y.level=y2 /\ y.dry=y3 from ⟨Cv,Og,P5⟩)
    rw [Cv,Og,P5] at lk;replace e0:wr.cell? ⟨gb,k * 3,none⟩=some (.int .i64 (x1:Int)):=by rw [<- aq]; exact e0
    replace e1:wr.cell? ⟨gb,k * 3 + 1,none⟩=some (.int .i64 x2):=by rw [<- Nq]; exact e1
    replace e2:wr.cell? ⟨gb,k * 3 + 2,none⟩=some (.bool x3):=by rw [<- yj]; exact e2
    have Bq:=Ext.box wr (.cells #[.int .i64 (x1:Int),.int .i64 x2,.bool x3] 233);have K3:=Blk.made wr 233 #[.int .i64 (x1:Int),.int .i64 x2,.bool x3];have d0:=(K3).cell 0;have d1:=(K3).cell 1;have d2:=(K3).cell 2;simp only [Go.Tw.gA,Go.Tw.gB,Go.Tw.gC] at d0 d1 d2;have jq:=hid Bq;have Zy:Hid (∀ (W:World) gn,Blk W gn 233 #[.int .i64 (y1:Int),.int .i64 y2,.bool y3] -> ∀ j u,(encR y)[j]?=some u -> W.cell? ((⟨gn,0,none⟩:Addr).add j)=some u):=hid (fun W gn hb=>by unfold encR; rw [Dz.out.1,Dz.out.2.1,Dz.out.2.2]; exact Q6d hb)
    have Mv:=hid HX.out.size;obtain ⟨Ao,co,ay,-⟩:=kq.out.shape;subst ay;clear Wq Jx aq Nq yj hy Cv Og P5 Bq K3 Yq hx Oj Y2 Dw
    go_light
    go_wp2_with (first | (refine (lk.out _ jq.out).mono ?_; rintro e w5 ⟨rfl,yq⟩; have vq:=hid (jq.out.trans yq); clear yq) | (refine Q2i (o:=⟨some 19,_,_,_,_,_⟩) rfl ?_; refine Q2y (.tmp 14) (.tmp 18) 231 rfl w.heap.size 233 i0 (.agg #[.int .i64 0,.int .i64 0,.bool false]) 3 24 underlying231 hi dq fq Zj rfl (by decide) encR Q8l _ zs y rfl (kq.out.below (vq.out.trans (Ext.box _ _))) ⟨w5.heap.size,0,none⟩ 1 rfl (Zy.out _ _ (Blk.made _ _ _)) (Y5o y) Gg.out (by decide) (by have h1:=(vq.out.trans (Ext.box w5 (.cells #[.int .i64 (y1:Int),.int .i64 y2,.bool y3] 233))).size; have h2:=Mv.out; omega) ?_; intro v' w9 Oq Pq))
    have Zq:=vq.out.trans (Ext.box w5 (.cells #[.int .i64 (y1:Int),.int .i64 y2,.bool y3] 233));have Jy:=kq.out.below Zq;have T4:=hid Oq;have uj:Hid (Ext w w9):=hid (Below.grown (HX.out.trans Zq) Pq (by have:=Zq.size; have:=Mv.out; omega) (fun b hb=>(Jy.Q9f b hb).1))
    clear Zq Jy Oq Pq;go_wp2;go_roundw
    case rel=>exact ⟨k + 1,by omega,by go_num,by rw [Sj.out]; exact T4.out,uj.out⟩
    case measure=>simp [intOf]; omega
  . have lj:k=L:=by omega
    subst lj;rw [dz.out] at kq;clear Yq hx;go_wp2;go_ret;exact ⟨_,rfl,kq.out,HX.out⟩
theorem Z7v (w:World) (B:Nat) (v u:Value) (ps:List Runner) (s:Q0b) (t:Nat) (cl:Bool) (hv:Q0i w v s) (hu:Q1d w B 233 3 encR u ps) (rj:Known s ps) (Kw:Lev t ps) (hl:ps.length <= 80000) (hV:Q0r s) (ht:t < s.ships.length) :
    Calls prog 198 #[v,.int .i64 (t:Int),u,.bool cl] w fun e w'=>∃ x,e=.returned x /\ Q1d w' w.heap.size 233 3 encR x (moved s t cl ps) /\ Ext w w':=by
 obtain ⟨a,b,rfl,h2⟩:=hv;obtain ⟨A,Tq,rfl,-,-,-⟩:=h2.ships.opened;obtain ⟨M,Vq,rfl,-,-,-⟩:=h2.members.opened;have HC:=hid (fun (W:World) (gS gT gC:Nat) (hW:Ext w W) (hS:Blk W gS 34 #[.int .i64 s.limit,.slice A s.ships.length Tq,.slice M s.members.length Vq]) hT hC=>Y4b W B u ps gS gT gC _ _ s t cl (hu.below hW) rj Kw hl hS ⟨_,_,rfl,h2.ext hW⟩ hT hC hV ht);obtain ⟨Au,cu,nj,-⟩:=hu.shape;subst nj;clear h2 hu rj Kw hV ht;go_enter func198,ntmps198;go_wp2_with fail;change Calls _ _ _ (((w.alloc (.cells #[.int .i64 s.limit,.slice A s.ships.length Tq,.slice M s.members.length Vq] 34)).alloc (.cells #[.int .i64 (t:Int)] 3)).alloc (.cells #[.bool cl] 4)) _;obtain ⟨W,Mq,k0,k1,k2,Rq,eW⟩:=X0c w 34 #[.int .i64 s.limit,.slice A s.ships.length Tq,.slice M s.members.length Vq] 3 #[.int .i64 (t:Int)] 4 #[.bool cl];rw [Mq];clear Mq;have K0:=hid k0;have K1:=hid (k1.cell 0);have K2:=hid (k2.cell 0);have Mv:=hid Rq.out.size;clear k0 k1 k2;refine (HC.out _ _ _ _ Rq.out K0.out K1.out K2.out).mono ?_;rintro e w5 ⟨x,rfl,hu,yq⟩;have HU:=hid hu;have vq:=hid yq;clear hu yq;go_wp2;go_ret;exact ⟨_,rfl,Q1d.weaken HU.out Mv.out,Rq.out.trans vq.out⟩
end Go.Proofs
