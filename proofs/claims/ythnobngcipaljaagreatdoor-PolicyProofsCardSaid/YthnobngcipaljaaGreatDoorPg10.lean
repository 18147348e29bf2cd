/- Part of a proof. -/
import Derived.Test.YthnobngcipaljaaGreatDoorPg09
set_option maxRecDepth 1000000
set_option maxHeartbeats 64000000
set_option linter.unusedVariables false
set_option linter.unusedSimpArgs false
set_option linter.constructorNameAsVariable false
open Go.Lib (hid)
namespace Go.Proofs
open Go.RowKit Go.Tw Go.Flow Tryz
attribute [local go_sem] Oper.semAt_some
attribute [local go_sem ↓] X5w X3q
theorem fze10 {u:Type} {a b:u} (h:a=b:=by rw [hbb]; dsimp only; (try simp (discharger:=decide) only [Flow.eval_put_ne]); rfl):a=b:=h
def Y4b (s:Q0b) (n:Int):List Bool:=if Q6v s n=0 then (alone s n.toNat).getD [] else []
def Z1p (s:Q0b) (n:Int):Int:=if Q6v s n=0 then (if (alone s n.toNat).isSome then 0 else 24) else Q6v s n
theorem X1e (w:World):Q1f w (.slice none 0 0) []:=Go.Tw.Rows.nil _ _ _
theorem Z6u (w:World) (v:Value) (s:Q0b) (n:Int) (hv:Q0g w v s) (hs:Q3v s) :
    Calls prog 50 #[v,.int .i64 n] w fun e w'=>∃ x,e=.returned (.tuple #[x,.int .i64 (countB (Y4b s n)),.int .i64 (Z1p s n)]) /\ Q1f w' x (Y4b s n) /\ Ext w w':=by
 obtain ⟨a,b,rfl,h2⟩:=hv;obtain ⟨A,Uq,rfl,-,-,-⟩:=h2.ships.opened;obtain ⟨B,Wq,rfl,-,-,-⟩:=h2.members.opened;have H2:=hid h2;have HS:=hid hs;have Vk:Hid (∀ (W:World) (u:Value),Q0e W u [s.err,Q0u (X3f s n) 10] -> Calls prog 96 #[u] W fun e W'=>e=.returned (.int .i64 (Q6v s n)) /\ W=W'):=hid (fun W u h=>first_any W u _ h);clear h2 hs;go_enter func50,ntmps50;go_upto_region 1 with fail;change Code.wp _ _ _ _ (w.alloc (.cells #[.int .i64 s.limit,.slice A s.ships.length Uq,.slice B s.members.length Wq] 34));obtain ⟨W,Nq,k0,Sq,eW⟩:=Q1y w 34 #[.int .i64 s.limit,.slice A s.ships.length Uq,.slice B s.members.length Wq];rw [Nq];clear Nq;have K0:=hid k0;clear k0;have Vq:=(Ext.refl W).drew;have Mz:Hid (∀ W',Ext W W' -> Q0g W' (.agg #[.int .i64 s.limit,.slice A s.ships.length Uq,.slice B s.members.length Wq]) s):=hid (fun W' hW=>⟨_,_,rfl,H2.out.ext (Sq.out.trans hW)⟩);refine Flow.Q1h [.w,.w,.w,.p,.w,.w,.w,.p] [0,1,2,3,4,5,6,7] [[],[0],[],[],[1,2,3],[1,4],[4,5],[0,1,2,3,4,5,6]]
  [.c 0 (.agg #[.int .i64 s.limit,.slice A s.ships.length Uq,.slice B s.members.length Wq]),.c 1 (.int .i64 s.err),.c 2 (.agg #[.int .i64 s.limit,.slice A s.ships.length Uq,.slice B s.members.length Wq]),.c 3 (.int .i64 n),.c 4 (.int .i64 (Q0u (X3f s n) 10)),⟨fun v wz=>(fun v w'=>Q0e w' (v 5) [s.err,Q0u (X3f s n) 10]) v wz,by intro v a b hx h; exact Q0e.ext h hx⟩,.c 6 (.int .i64 (Q6v s n)),.c 7 (.int .i64 (Q6v s n))]
  (by kernel_rfl) rfl (by kernel_rfl) ⟨?g0,?g1,?g2,?g3,?g4,?g5,?g6,?g7,trivial⟩ ?post
 case g0 | g2=>
  intro v w1 hx;intro bb hbb;intro K hK;have o1:bb.eval (.tmp 2)=.pointer (some ⟨w.heap.size,0,none⟩):=fze10
  exact Q0i (.tmp 2) _ rfl X8b Q9q o1 (K0.out.ext (Vq.trans hx)) rfl (hK _ _ (Ext.refl _) rfl)
 case g1=>
  intro v w1 hx;(repeat intro (zq:v _=_));intro bb hbb;subst hbb;intro K hK;go_simp;refine Q0d (Q1x w1 _ s (Mz.out w1 (Vq.trans hx)) HS.out) ?_;rintro e w2 ⟨rfl,Mq⟩;exact ⟨_,rfl,hK _ _ Mq rfl⟩
 case g3=>
  intro v w1 hx;intro bb hbb;subst hbb;refine ⟨_,fun w=>?_,rfl⟩;go_simp
 case g4=>
  intro v w1 hx;(repeat intro (zq:v _=_));intro bb hbb;subst hbb;intro K hK;go_simp;refine Q0d (Q2j w1 _ s n (Mz.out w1 (Vq.trans hx))) ?_;rintro e w2 ⟨rfl,Mq⟩;exact ⟨_,rfl,hK _ _ Mq rfl⟩
 case g5=>
  intro v w1 hx;(repeat intro (zq:v _=_));intro bb hbb;subst hbb;intro K hK;go_simp;exact hK _ _ (Ext.box _ _) (Q1v (l:=[s.err,Q0u (X3f s n) 10]) (by simp))
 case g6=>
  intro v w1 hx (q4:v 4=_) (q5:(fun v w'=>Q0e w' (v 5) [s.err,Q0u (X3f s n) 10]) v w1);intro bb hbb;subst hbb;intro K hK;go_simp;refine Q0d (Vk.out w1 _ q5) ?_;rintro e w2 ⟨rfl,rfl⟩;exact ⟨_,rfl,hK _ _ (Ext.refl _) rfl⟩
 case g7=>
  intro v w1 hx (q0:v 0=_) (q1:v 1=_) (q2:v 2=_) (q3:v 3=_) (q4:v 4=_) _ (q6:v 6=_);intro bb hbb;subst hbb;refine ⟨_,fun w=>?_,rfl⟩;go_simp
 case post =>
  intro v w1 hx (q0:v 0=_) (q1:v 1=_) (q2:v 2=_) (q3:v 3=_) (q4:v 4=_) (q5:(fun v w'=>Q0e w' (v 5) [s.err,Q0u (X3f s n) 10]) v w1) (q6:v 6=_) (q7:v 7=_);simp only [Flow.All,Flow.acts,Act.put];go_simp;have vq:=hid (Sq.out.trans (Vq.trans hx));have L8:=hid (K0.out.ext (Vq.trans hx));obtain ⟨w5,rfl⟩:∃ X,X=w1:=⟨_,rfl⟩;clear hx Vq q0 q1 q2 q3 q4 q5 q6 q7
  by_cases he:Q6v s n=0
  . obtain ⟨qg,JX,Yv⟩:=Y3m he
    have HV:=hid qg;have s7:Hid (Y4b s n=(alone s n.toNat).getD []):=hid (if_pos he);have Pk:Hid (Z1p s n=if (alone s n.toNat).isSome then 0 else 24):=hid (if_pos he)
    have hne:(Q6v s n != 0)=false:=by simp [he]
    obtain ⟨i,rfl⟩:∃ i:Nat,n=(i:Int):=⟨n.toNat,by omega⟩
    have yz:i < s.members.length:=by omega
    rw [Int.toNat_natCast] at s7 Pk;obtain ⟨E,hE⟩:∃ E,Q6v s (i:Int)=E:=⟨_,rfl⟩;rw [hE] at hne ⊢;obtain ⟨bm,off,Rq,Jq,Bq,X,Y,Z,aq⟩:=Q3s (H2.out.members.ext vq.out) yz;have hA:=aq.addr;subst hA;have Fx:=hid aq.e0;have HE1':=hid aq.e1;have Zw:=hid aq.e2;have D3:=hid aq.e3;have UQ:=hid aq.e4;have Uz:=hid (fun W' hW=>aq.mem (W:=W') hW);have hT:=(qg.shaped i yz).1;have h6:=qg.tides;have T3:=hid (fun (W:World) (u:Value) (hu:X3u W u (Q2a s i))=>Y3n W u (Q2a s i) s.limit s.ships.length hu hT (by omega) h6.1 (X5u qg yz (Nat.le_refl _)))
    have S0:∀ b,alone s i=some b -> b.length=s.ships.length:=fun b hb=>Q7n _ _ _ _ b hb;have kc:Hid ((Q2a s i).Q4y s.limit s.ships.length (2 ^ s.ships.length)=alone s i):=hid rfl;rw [kc.out] at T3;obtain ⟨o,ho⟩:∃ o,alone s i=o:=⟨_,rfl⟩;rw [ho] at T3 s7 Pk S0;have Vq:=(Ext.refl w5).drew;obtain ⟨nm,vj⟩:∃ x,Q1t s.members i=x:=⟨_,rfl⟩;obtain ⟨wt,Vj⟩:∃ x,Q0o s.members i=x:=⟨_,rfl⟩;obtain ⟨lc,mj⟩:∃ x,(Q0c s.members i).length=x:=⟨_,rfl⟩;obtain ⟨lo,Lx⟩:∃ x,(Q0z s.members i).length=x:=⟨_,rfl⟩;obtain ⟨li,yx⟩:∃ x,(Q1g s.members i).length=x:=⟨_,rfl⟩;rw [vj] at Fx Uz;rw [Vj] at HE1' Uz;rw [mj] at Zw Uz;rw [Lx] at D3 Uz;rw [yx] at UQ Uz;have J1:(i:Int) < s.members.length:=by omega
    have uz:Hid (0 < s.ships.length /\ s.ships.length <= 6):=hid h6;clear he hE qg JX Yv aq hT ho vj Vj mj Lx yx h6;go_wp2;refine Flow.Q1h [.p,.w,.p,.p,.w,.p,.w,.w,.p] [0,1,2,3,4,5,6,7,8] [[],[0],[],[1,2],[3],[],[5],[4,6],[0,1,2,3,4,5,6,7]]
     [.c 0 (.pointer (some ⟨w.heap.size,2,none⟩)),.c 1 (.slice (some ⟨bm,off,none⟩) s.members.length Wq),.c 2 (.int .i64 (i:Int)),.c 3 (.pointer (some ⟨bm,off + i * 5,none⟩)),.c 4 (.agg #[.string nm,.int .i64 wt,.slice X lc Rq,.slice Y lo Jq,.slice Z li Bq]),.c 5 (.pointer (some ⟨w.heap.size,0,none⟩)),.c 6 (.int .i64 s.limit),⟨fun v wz=>(fun v w'=>Q9l w' (v 7) o) v wz,by intro v a b hx h; exact Q9l.ext h hx⟩,.is 8 (fun v=>v 7)]
     (by kernel_rfl) rfl (by kernel_rfl) ⟨?g0,?g1,?g2,?g3,?g4,?g5,?g6,?g7,?g8,trivial⟩ ?post
    case g0 | g2 | g5=>
     intro v w1 hx;intro bb hbb;subst hbb;refine ⟨_,fun w=>?_,rfl⟩;go_simp
    case g1 | g6=>
     intro v w1 hx;(repeat intro (zq:v _=_));intro bb hbb;subst hbb;have n0:w1.cell? ⟨w.heap.size,2,none⟩=some (.slice (some ⟨bm,off,none⟩) s.members.length Wq):=(L8.out.ext (Vq.trans hx)).cell 2;have n1:w1.cell? ⟨w.heap.size,0,none⟩=some (.int .i64 s.limit):=(L8.out.ext (Vq.trans hx)).cell 0;intro K hK;go_simp;exact hK _ _ (Ext.refl _) rfl
    case g3=>
     intro v w1 hx;(repeat intro (zq:v _=_));intro bb hbb;subst hbb;refine ⟨_,fun w=>?_,rfl⟩;go_simp
    case g4=>
     intro v w1 hx;(repeat intro (zq:v _=_));intro bb hbb;subst hbb;have f0:=(Vq.trans hx).cell Fx.out;have f1:=(Vq.trans hx).cell HE1'.out;have f2:=(Vq.trans hx).cell Zw.out;have f3:=(Vq.trans hx).cell D3.out;have f4:=(Vq.trans hx).cell UQ.out;intro K hK;go_simp;exact hK _ _ (Ext.refl _) rfl
    case g7=>
     intro v w1 hx;(repeat intro (zq:v _=_));intro bb hbb;subst hbb;intro K hK;go_simp;refine Q0d (T3.out w1 _ (Uz.out w1 (Vq.trans hx))) ?_;rintro e w2 ⟨x,rfl,h1,Mq⟩;exact ⟨_,rfl,hK _ _ Mq h1⟩
    case g8=>
     intro v w1 hx (q0:v 0=_) (q1:v 1=_) (q2:v 2=_) (q3:v 3=_) (q4:v 4=_) (q5:v 5=_) (q6:v 6=_) _;intro bb hbb;subst hbb;refine ⟨_,fun w=>?_,rfl⟩;go_simp
    case post =>
     intro v w1 hx;(iterate 7 intro (zq:v _=_));intro (q7:(fun v w'=>Q9l w' (v 7) o) v w1) (q8:v 8=v 7);simp only [Flow.All,Flow.acts,Act.put];go_simp;have hq:Q9l w1 (v 7) o:=q7;have aj:=hid (vq.out.trans (Vq.trans hx));clear hx Vq q7 q8;(repeat clear zq);obtain ⟨xv,ag⟩:∃ z,v 7=z:=⟨_,rfl⟩;rw [ag] at hq ⊢;cases o with
     | none =>
       replace hq:xv=.slice none 0 0:=hq;subst hq;have G8:Hid (countB []=0):=hid rfl;clear S0 ag;go_wp2_with (first | (go_at_call 129; refine (Q7d _ _ [] (X1e _)).mono ?_; rintro e w6 ⟨rfl,Kj⟩) | (go_at_call 119; refine (Q2s _ _ _).mono ?_; rintro e w7 ⟨rfl,rfl⟩))
       go_ret3
       exact ⟨_,by rw [s7.out,Pk.out]; rfl,by rw [s7.out]; exact X1e _,aj.out.trans Kj⟩
     | some b =>
       replace hq:Q0n w1 0 4 .bool xv b:=hq;have jx:=S0 b rfl;have Rw:=hid (hq.bools (by have:=uz.out; omega))
       obtain ⟨ab,cb,rfl⟩:∃ ab cb,xv=.slice (some ab) b.length cb:=by
        rcases hq.2 with ⟨_,h0⟩ | ⟨g,Qq,cur,he,_⟩
        . have:=uz.out; omega
        . exact ⟨_,_,he⟩
       clear S0 ag hq jx;go_wp2_with (first | (go_at_call 129; refine (Q7d _ _ b Rw.out).mono ?_; rintro e w6 ⟨rfl,Kj⟩) | (go_at_call 119; refine (Q2s _ _ _).mono ?_; rintro e w7 ⟨rfl,rfl⟩))
       go_ret3
       have HG:Hid (Y4b s (i:Int)=b /\ Z1p s (i:Int)=0):=hid ⟨by rw [s7.out]; rfl,by rw [Pk.out]; rfl⟩
       exact ⟨.slice (some ab) b.length cb,by rw [HG.out.1,HG.out.2]; rfl,by rw [HG.out.1]; exact Rw.out.ext Kj,aj.out.trans Kj⟩
  . have s7:Hid (Y4b s n=[]):=hid (if_neg he)
    have Pk:Hid (Z1p s n=Q6v s n):=hid (if_neg he);have hne:(Q6v s n != 0)=true:=by simp [he]
    clear he;go_wp2
    go_ret3
    exact ⟨_,by rw [s7.out,Pk.out]; rfl,by rw [s7.out]; exact X1e _,vq.out⟩
end Go.Proofs
namespace Go.Proofs
open Go.RowKit Go.Tw Go.Flow Tryz
attribute [local go_sem] Oper.semAt_some
def X5o (s:Q0b) (p:List Rul) (n:Int):Int:=Q0h [Q1j s p,Q0u (X3f s n) 10]
theorem Z7q {s:Q0b} {p:List Rul} {n:Int} (h:X5o s p n=0):Q0w s /\ Q0q s.hist p=0 /\ 0 <= n /\ n < s.members.length:=by
 obtain ⟨h1,h2⟩:=Q1n h;obtain ⟨h3,h4⟩:=Q5g h1;refine ⟨h3,h4,?_⟩;unfold X3f Q0u at h2
 by_cases h0:n < 0 <;> by_cases h1:(s.members.length:Int) <= n <;> simp [h0,h1] at h2 ⊢ <;> omega
def J4u (s:Q0b) (p:List Rul) (n:Int):List Bool:=if X5o s p n=0 then Q0l p (Q0c s.members n.toNat) else []
def J3y (s:Q0b) (p:List Rul) (n:Int):List Int:=if X5o s p n=0 then (Q2a s n.toNat).Q7b (Q0l p (Q0c s.members n.toNat)) else []
theorem Y0e {a:World} {g i k n c m d:Nat} {T:TypeId} {A B:Option Addr} {u:Value} (hg:Blk a g T #[.slice A n c,.slice B m d]) (h:a.cell? ⟨i,k,none⟩=some u) (hu:∀ A n c,u ≠ .slice A n c):i ≠ g:=by
 rintro rfl;rw [hg.cell] at h
 rcases k with _ | _ | k
 . simp at h; exact hu _ _ _ h.symm
 . simp at h; exact hu _ _ _ h.symm
 . simp at h
theorem X1i {a b:World} {g n c m d:Nat} {T:TypeId} {A B:Option Addr} {v:Value} {l:List Int} (h:Q0e a v l) (hg:Blk a g T #[.slice A n c,.slice B m d]) (hk:∀ k,k < a.heap.size -> k ≠ g -> b.heap[k]?=a.heap[k]?):Q0e b v l:=by
 obtain ⟨f,⟨A',Qq,hv,hn,Kq,hc⟩,h2⟩:=h;refine ⟨f,⟨A',Qq,hv,hn,Kq,fun j hj=>?_⟩,h2⟩;obtain ⟨b',off,hA,Xq⟩:=hc j hj;have e:=h2 j (by omega)
 simp only [Nat.mul_one,Nat.add_zero] at e;exact ⟨b',off,hA,Q9w Xq (Y0e hg Xq (by rw [e]; intro _ _ _ hh; cases hh)) hk⟩
theorem Z2z {a b:World} {g n c m d:Nat} {T:TypeId} {A B:Option Addr} {v:Value} {l:List Bool} (h:Q1f a v l) (hg:Blk a g T #[.slice A n c,.slice B m d]) (hk:∀ k,k < a.heap.size -> k ≠ g -> b.heap[k]?=a.heap[k]?):Q1f b v l:=by
 obtain ⟨f,⟨A',Qq,hv,hn,Kq,hc⟩,h2⟩:=h;refine ⟨f,⟨A',Qq,hv,hn,Kq,fun j hj=>?_⟩,h2⟩;obtain ⟨b',off,hA,Xq⟩:=hc j hj;have e:=h2 j (by omega)
 simp only [Nat.mul_one,Nat.add_zero] at e;exact ⟨b',off,hA,Q9w Xq (Y0e hg Xq (by rw [e]; intro _ _ _ hh; cases hh)) hk⟩
theorem Tryz.J9v (w:World):(isAgg 96).run prog w=.ok true w:=by kernel_rfl
theorem Tryz.Z5v (w:World):(sizeOf 96).run prog w=.ok 2 w:=by kernel_rfl
theorem X0h {A B:Option Addr} {n c m d:Nat}:∀ u ∈ (#[Value.slice A n c,.slice B m d]:Array Value).toList,u.oneCell'=true:=by
 intro u hu;simp only [List.mem_cons,List.not_mem_nil,or_false] at hu
 rcases hu with rfl | rfl <;> rfl
def J3v (s:Q0b) (p:List Rul) (n:Int) (e:Ending) (w':World):Prop:=∃ x y,e=.returned (.tuple #[.agg #[x,y],.int .i64 (X5o s p n)]) /\ Q1f w' x (J4u s p n) /\ Q0e w' y (J3y s p n)
theorem J1r (w:World) (v u:Value) (s:Q0b) (p:List Rul) (n:Int) (hv:Q0g w v s) (hu:Q0m w u p) (hs:Q3v s) (hp:p.length <= 1000) :
    Calls prog 57 #[v,u,.int .i64 n] w fun e w'=>J3v s p n e w' /\ Ext w w':=by
 obtain ⟨a,b,rfl,h2⟩:=hv;obtain ⟨rv,rfl,hr⟩:=hu;obtain ⟨A,Uq,rfl,-,-,-⟩:=h2.ships.opened;obtain ⟨B,Wq,rfl,-,-,-⟩:=h2.members.opened;obtain ⟨R,Gq,rfl,-,-,-⟩:=hr.opened;have H2:=hid h2;have HR:=hid hr;have HS:=hid hs;have Vk:Hid (∀ (W:World) (u:Value),Q0e W u [Q1j s p,Q0u (X3f s n) 10] -> Calls prog 96 #[u] W fun e W'=>e=.returned (.int .i64 (X5o s p n)) /\ W=W'):=hid (fun W u h=>first_any W u _ h);clear h2 hr hs;go_enter func57,ntmps57;go_upto_region 1 with fail;change Code.wp _ _ _ _ (((w.alloc (.cells #[.int .i64 s.limit,.slice A s.ships.length Uq,.slice B s.members.length Wq] 34)).alloc (.cells #[.slice R p.length Gq] 38)).alloc (.cells #[.slice none 0 0,.slice none 0 0] 96));obtain ⟨W,Nq,k0,k1,k2,Sq,eW⟩:=Q9s w 34 #[.int .i64 s.limit,.slice A s.ships.length Uq,.slice B s.members.length Wq] 38 #[.slice R p.length Gq] 96 #[.slice none 0 0,.slice none 0 0];rw [Nq];clear Nq;have K0:=hid k0;have K1:=hid k1;have K2:=hid k2;clear k0 k1 k2;have Vq:=(Ext.refl W).drew;have Mz:Hid (∀ W',Ext W W' -> Q0g W' (.agg #[.int .i64 s.limit,.slice A s.ships.length Uq,.slice B s.members.length Wq]) s):=hid (fun W' hW=>⟨_,_,rfl,H2.out.ext (Sq.out.trans hW)⟩);have Zg:Hid (∀ W',Ext W W' -> Q0m W' (.agg #[.slice R p.length Gq]) p):=hid (fun W' hW=>⟨_,rfl,HR.out.ext (Sq.out.trans hW)⟩);refine Flow.Q1h [.w,.w,.w,.w,.p,.w,.w,.w,.p] [0,1,2,3,4,5,6,7,8] [[],[],[0,1],[],[],[2,3,4],[2,5],[5,6],[0,1,2,3,4,5,6,7]]
  [.c 0 (.agg #[.int .i64 s.limit,.slice A s.ships.length Uq,.slice B s.members.length Wq]),.c 1 (.agg #[.slice R p.length Gq]),.c 2 (.int .i64 (Q1j s p)),.c 3 (.agg #[.int .i64 s.limit,.slice A s.ships.length Uq,.slice B s.members.length Wq]),.c 4 (.int .i64 n),.c 5 (.int .i64 (Q0u (X3f s n) 10)),⟨fun v wz=>(fun v w'=>Q0e w' (v 6) [Q1j s p,Q0u (X3f s n) 10]) v wz,by intro v a b hx h; exact Q0e.ext h hx⟩,.c 7 (.int .i64 (X5o s p n)),.c 8 (.int .i64 (X5o s p n))]
  (by kernel_rfl) rfl (by kernel_rfl) ⟨?g0,?g1,?g2,?g3,?g4,?g5,?g6,?g7,?g8,trivial⟩ ?post
 case g0 | g3=>
  intro v w1 hx;intro bb hbb;intro K hK;have o1:bb.eval (.tmp 3)=.pointer (some ⟨w.heap.size,0,none⟩):=fze10
  exact Q0i (.tmp 3) _ rfl X8b Q9q o1 (K0.out.ext (Vq.trans hx)) rfl (hK _ _ (Ext.refl _) rfl)
 case g1=>
  intro v w1 hx;intro bb hbb;intro K hK;have o1:bb.eval (.tmp 4)=.pointer (some ⟨w.heap.size + 1,0,none⟩):=fze10
  exact Q0i (.tmp 4) _ rfl Q6t Q4b o1 (K1.out.ext (Vq.trans hx)) rfl (hK _ _ (Ext.refl _) rfl)
 case g2=>
  intro v w1 hx;(repeat intro (zq:v _=_));intro bb hbb;subst hbb;intro K hK;go_simp;refine Q0d (Q5e w1 _ _ s p (Mz.out w1 (Vq.trans hx)) (Zg.out w1 (Vq.trans hx)) HS.out hp) ?_;rintro e w2 ⟨rfl,Mq⟩;exact ⟨_,rfl,hK _ _ Mq rfl⟩
 case g4=>
  intro v w1 hx;intro bb hbb;subst hbb;refine ⟨_,fun w=>?_,rfl⟩;go_simp
 case g5=>
  intro v w1 hx;(repeat intro (zq:v _=_));intro bb hbb;subst hbb;intro K hK;go_simp;refine Q0d (Q2j w1 _ s n (Mz.out w1 (Vq.trans hx))) ?_;rintro e w2 ⟨rfl,Mq⟩;exact ⟨_,rfl,hK _ _ Mq rfl⟩
 case g6=>
  intro v w1 hx;(repeat intro (zq:v _=_));intro bb hbb;subst hbb;intro K hK;go_simp;exact hK _ _ (Ext.box _ _) (Q1v (l:=[Q1j s p,Q0u (X3f s n) 10]) (by simp))
 case g7=>
  intro v w1 hx (q5:v 5=_) (q6:(fun v w'=>Q0e w' (v 6) [Q1j s p,Q0u (X3f s n) 10]) v w1);intro bb hbb;subst hbb;intro K hK;go_simp;refine Q0d (Vk.out w1 _ q6) ?_;rintro e w2 ⟨rfl,rfl⟩;exact ⟨_,rfl,hK _ _ (Ext.refl _) rfl⟩
 case g8=>
  intro v w1 hx (q0:v 0=_) (q1:v 1=_) (q2:v 2=_) (q3:v 3=_) (q4:v 4=_) (q5:v 5=_) _ (q7:v 7=_);intro bb hbb;subst hbb;refine ⟨_,fun w=>?_,rfl⟩;go_simp
 case post =>
  intro v w1 hx;(iterate 6 intro (zq:v _=_));intro (q6:(fun v w'=>Q0e w' (v 6) [Q1j s p,Q0u (X3f s n) 10]) v w1);(iterate 2 intro (zq:v _=_));simp only [Flow.All,Flow.acts,Act.put];go_simp;have vq:=hid (Sq.out.trans (Vq.trans hx));have dx:=hid (K0.out.ext (Vq.trans hx));have Rk:=hid (K1.out.ext (Vq.trans hx));have VQ:=hid (K2.out.ext (Vq.trans hx));obtain ⟨w5,rfl⟩:∃ X,X=w1:=⟨_,rfl⟩;clear hx Vq q6;(repeat clear zq)
  by_cases he:X5o s p n=0
  . obtain ⟨hV,Wz,JX,Yv⟩:=Z7q he
    have h6:=hV.tides;have HF:Hid (J4u s p n=Q0l p (Q0c s.members n.toNat) /\ J3y s p n=(Q2a s n.toNat).Q7b (Q0l p (Q0c s.members n.toNat))):=hid ⟨if_pos he,if_pos he⟩;have hne:(X5o s p n != 0)=false:=by simp [he]
    obtain ⟨i,rfl⟩:∃ i:Nat,n=(i:Int):=⟨n.toNat,by omega⟩
    have yz:i < s.members.length:=by omega
    rw [Int.toNat_natCast] at HF;have Ex:=hid he;have Ej:=X5u hV yz (n:=s.ships.length) (Nat.le_refl _);have hcl:(Q0l p (Q0c s.members i)).length=s.ships.length:=by rw [Q3i,(hV.shaped i yz).1]
    have Y7:=hid (Q6o w5 _ _ s p ⟨_,_,rfl,H2.out.ext vq.out⟩ ⟨_,rfl,HR.out.ext vq.out⟩ hV Wz);have tz:=hid (fun (W:World) (v u:Value) (hv:X3u W v (Q2a s i)) (hu:Q1f W u (Q0l p (Q0c s.members i)))=>Y4i W v u (Q2a s i) _ hv hu (by omega) (by rw [hcl]; exact Ej))
    have nY:=hid (Q7j p yz);obtain ⟨E,hE⟩:∃ E,X5o s p (i:Int)=E:=⟨_,rfl⟩;have Fx:=hid (hE.symm.trans he);have c0:=(dx.out).cell 0;have c1:=(dx.out).cell 1;have c2:=(dx.out).cell 2;simp only [Go.Tw.gA,Go.Tw.gB,Go.Tw.gC] at c0 c1 c2;have d0:=(Rk.out).cell 0;simp only [Go.Tw.gA,Go.Tw.gB] at d0;rw [hE] at hne ⊢;rw [Fx.out];clear hV Wz JX Yv he hE Ej hcl h6;go_wp2_with (go_at_call 109; refine Y7.out.mono ?_; rintro e w6 ⟨x6,rfl,h1,h2⟩; refine halted ?_);have Yx:=hid h2;obtain ⟨Ab,cb,ly,-,-,Wg⟩:=h1.opened;subst ly;rw [Q4c] at Wg ⊢;obtain ⟨bu,ou,uk,hU,-,Sk,qj⟩:=Wg i yz;subst hU;rw [nY.out] at qj;obtain ⟨Uk,ck,hk,-,-,-⟩:=qj.opened;subst hk;have Ng:=hid qj;obtain ⟨bm,off,Rq,Jq,Bq,X,Y,Z,aq⟩:=Q3s (H2.out.ext (vq.out.trans h2)).members yz;obtain rfl:=aq.addr;have V0:=hid (aq.mem (Ext.refl w6));have e0:=aq.e0;have e1:=aq.e1;have e2:=aq.e2;have e3:=aq.e3;have e4:=aq.e4;have k6:=(dx.out.ext h2).cell 2;simp only [Go.Tw.gA,Go.Tw.gB,Go.Tw.gC] at k6;have J1:(i:Int) < s.members.length:=by omega
    have nh:=VQ.out.ext h2;have Jo:=hid (tz.out w6 _ _ V0.out Ng.out);clear h1 h2 Wg qj aq c0 c1 c2 d0;unfold Q1o;go_wp2_with (go_at_call 127; refine Jo.out.mono ?_; rintro e w7 ⟨x7,rfl,h1,h2⟩; refine halted ?_);have pz:=hid h2;obtain ⟨R7,c7,tc,-,-,-⟩:=h1.opened;subst tc;have Fo:=hid h1;have gJ:=nh.ext h2;clear h1 h2 nh e0 e1 e2 e3 e4 k6;unfold Q1o;go_wp2_with (with_reducible (refine Q6z ?_); refine Q0v rfl _ _ _ rfl Z5v rfl rfl gJ rfl rfl X0h ?_; intro w9 Fj Pj cj);refine bodyPost_ret (Q3u results57 rfl Fj J9v Z5v rfl) rfl ?_;exact ⟨⟨_,_,by rw [Ex.out]; rfl,by rw [HF.out.1]; exact Z2z (Ng.out.ext pz.out) gJ (fun k _ hk=>cj k hk),by rw [HF.out.2]; exact X1i Fo.out gJ (fun k _ hk=>cj k hk)⟩,Below.trans (vq.out.trans (Yx.out.trans pz.out)) (Pj _ (by omega))⟩
  . have HF:Hid (J4u s p n=[] /\ J3y s p n=[]):=hid ⟨if_neg he,if_neg he⟩
    have hne:(X5o s p n != 0)=true:=by simp [he]
    obtain ⟨E,hE⟩:∃ E,X5o s p n=E:=⟨_,rfl⟩;have Ex:=hid hE;have F5:=VQ.out;rw [hE] at hne ⊢;clear he hE;go_wp2_with (with_reducible (refine Q6z ?_); refine Q0v rfl _ _ _ rfl Z5v rfl rfl F5 rfl rfl X0h ?_; intro w9 Fj Pj cj);refine bodyPost_ret (Q3u results57 rfl Fj J9v Z5v rfl) rfl ?_;exact ⟨⟨_,_,by rw [Ex.out]; rfl,by rw [HF.out.1]; exact Go.Tw.Rows.nil _ _ _,by rw [HF.out.2]; exact Go.Tw.Rows.nil _ _ _⟩,Below.trans vq.out (Pj _ (by omega))⟩
theorem Tryz.J9m (w:World):(isAgg 124).run prog w=.ok true w:=by kernel_rfl
theorem Tryz.Y9k (w:World):(sizeOf 124).run prog w=.ok 2 w:=by kernel_rfl
theorem Y0o {a b:World} {g n c m d:Nat} {T:TypeId} {A B:Option Addr} {v:Value} {l:List Rul} (h:Q1d a v l) (hg:Blk a g T #[.slice A n c,.slice B m d]) (hk:∀ k,k < a.heap.size -> k ≠ g -> b.heap[k]?=a.heap[k]?):Q1d b v l:=by
 obtain ⟨f,⟨A',Qq,hv,hn,Kq,hc⟩,h2⟩:=h;refine ⟨f,⟨A',Qq,hv,hn,Kq,fun j hj=>?_⟩,fun j hj=>?_⟩
 . obtain ⟨b',off,hA,Xq⟩:=hc j hj
   obtain ⟨b2,off2,D6,rg⟩:=hc (j / 2 * 2 + 1) (by omega)
   rw [hA] at D6;injection D6 with D6;injection D6 with e1 e2 _;subst e1;have e:=(h2 (j / 2) (by omega)).2
   simp only at e;exact ⟨b',off,hA,Q9w Xq (Y0e hg rg (by rw [e]; intro _ _ _ hh; cases hh)) hk⟩
 . obtain ⟨x,y⟩:=h2 j hj
   exact ⟨X1i x hg hk,y⟩
def Q4f (s:Q0b) (p:List Rul):List Rul:=if Q1j s p=0 then p else []
def J5m (s:Q0b) (p:List Rul) (e:Ending) (w':World):Prop:=∃ x y,e=.returned (.tuple #[.agg #[x,y],.int .i64 (Q1j s p)]) /\ Q1d w' x (Q4f s p) /\ Q0e w' y (Q5c s p)
theorem Y7o (w:World) (v u:Value) (s:Q0b) (p:List Rul) (hv:Q0g w v s) (hu:Q0m w u p) (hs:Q3v s) (hp:p.length <= 1000) (h8:∀ k,k < p.length -> (Q0k p k).length <= 4096) :
    Calls prog 71 #[v,u] w fun e w'=>J5m s p e w' /\ Ext w w':=by
 obtain ⟨a,b,rfl,h2⟩:=hv;obtain ⟨rv,rfl,hr⟩:=hu;obtain ⟨A,Uq,rfl,-,-,-⟩:=h2.ships.opened;obtain ⟨B,Wq,rfl,-,-,-⟩:=h2.members.opened;obtain ⟨R,Gq,rfl,-,-,-⟩:=hr.opened;have H2:=hid h2;have HR:=hid hr;have HS:=hid hs;have Gk:=hid hp;have lV:=hid h8;obtain ⟨E,hE⟩:∃ z,Q1j s p=z:=⟨_,rfl⟩;have HE:=hid hE;obtain ⟨N,hN⟩:∃ z,p.length=z:=⟨_,rfl⟩;have HN:=hid hN;rw [hN] at HR ⊢;clear h2 hr hs hE hN hp h8;go_enter func71,ntmps71;go_wp2_with fail;change Calls _ _ _ (((w.alloc (.cells #[.int .i64 s.limit,.slice A s.ships.length Uq,.slice B s.members.length Wq] 34)).alloc (.cells #[.slice R N Gq] 38)).alloc (.cells #[.slice none 0 0,.slice none 0 0] 124)) _;obtain ⟨W,Nq,k0,k1,k2,Sq,eW⟩:=Q9s w 34 #[.int .i64 s.limit,.slice A s.ships.length Uq,.slice B s.members.length Wq] 38 #[.slice R N Gq] 124 #[.slice none 0 0,.slice none 0 0];rw [Nq];clear Nq;obtain ⟨gs,bq⟩:∃ x,w.heap.size=x:=⟨_,rfl⟩;have Nz:=hid bq;rw [bq] at k0 k1 k2 eW ⊢;have K1:=hid k1;have K2:=hid k2;clear k0 k1 k2 bq;have Zg:Hid (∀ W',Ext W W' -> Q0m W' (.agg #[.slice R N Gq]) p):=hid (fun W' hW=>⟨_,rfl,HR.out.ext (Sq.out.trans hW)⟩);refine (X3o _ _ _ s p ⟨_,_,rfl,H2.out.ext Sq.out⟩ (Zg.out _ (Ext.refl _)) HS.out Gk.out).mono ?_;rintro e w5 ⟨xk,rfl,hk,Cq⟩;rw [HE.out];obtain ⟨Xk,ck,rfl,-,-,-⟩:=hk.opened;obtain ⟨nk,U2⟩:∃ z,(Q5c s p).length=z:=⟨_,rfl⟩;rw [U2] at hk ⊢;have az:=hid hk;have vq:=hid Cq;have VQ:=hid (K2.out.ext Cq);have P5:=hid U2
 by_cases h0:E=0
 . have dg:Hid (Q4f s p=p):=hid (if_pos (HE.out.trans h0))
   have Fx:=hid h0;have hne:(E != 0)=false:=by simp [h0]
   have d0:=(K1.out.ext Cq).cell 0;simp only [Go.Tw.gA,Go.Tw.gB] at d0;clear h0 hk Cq U2;go_wp2_with fail;refine (J1l _ _ p (Zg.out _ vq.out) Gk.out lV.out).mono ?_;rintro e w6 ⟨xo,rfl,ho,Kj⟩;obtain ⟨ro,rfl,j7⟩:=ho;obtain ⟨Xo,co,rfl,-,-,-⟩:=j7.opened;rw [HN.out] at j7 ⊢;have qZ:=hid j7;have Yx:=hid (vq.out.trans Kj);have hp:=VQ.out.ext Kj;have zc:=hid (az.out.ext Kj);clear j7 Kj d0;go_wp2_with (with_reducible (refine Q6z ?_); refine Q0v rfl _ _ _ rfl Y9k rfl rfl hp rfl rfl X0h ?_; intro wz Fj Pj cj);refine bodyPost_ret (Q3u results71 rfl Fj J9m Y9k rfl) rfl ?_;exact ⟨⟨_,_,by rw [HE.out,Fx.out]; rfl,by rw [dg.out]; exact Y0o qZ.out hp (fun k _ hk=>cj k hk),X1i zc.out hp (fun k _ hk=>cj k hk)⟩,Below.trans (Sq.out.trans Yx.out) (Pj _ (by have:=Nz.out; omega))⟩
 . have dg:Hid (Q4f s p=[] /\ Q5c s p=[]):=hid ⟨if_neg (by rw [HE.out]; exact h0),if_neg (by rw [HE.out]; exact h0)⟩
   have hne:(E != 0)=true:=by simp [h0]
   have hp:=VQ.out;clear h0 hk Cq U2;go_wp2_with (with_reducible (refine Q6z ?_); refine Q0v rfl _ _ _ rfl Y9k rfl rfl hp rfl rfl X0h ?_; intro w9 Fj Pj cj);refine bodyPost_ret (Q3u results71 rfl Fj J9m Y9k rfl) rfl ?_;exact ⟨⟨_,_,by rw [HE.out]; rfl,by rw [dg.out.1]; exact Go.Tw.Rows.nil _ _ _,by rw [dg.out.2]; exact Go.Tw.Rows.nil _ _ _⟩,Below.trans (Sq.out.trans vq.out) (Pj _ (by have:=Nz.out; omega))⟩
theorem Y2d (w:World) (v:Value) (s:Q0b) (hv:Q0g w v s) (he:s.err=0) :
    Calls prog 44 #[v] w fun e w'=>∃ x,e=.returned x /\ LL w' w.heap.size x s.hist /\ Ext w w':=by
 obtain ⟨i0,hi,fq,mq,iq⟩:=info_parts info22;obtain ⟨n0,ni,nz0,nz1,nz2⟩:=info_parts info3;have hS:=Q0w.of he;have o8:Hid (∀ i,i < s.members.length -> (Q0c s.members i).length=s.ships.length):=fun i h=>(hS.shaped i h).1;have LJ:=hS.tides.2;have eX:=hS.some.2;obtain ⟨a,b,rfl,h2⟩:=hv;obtain ⟨A0,Uq,rfl,-,-,-⟩:=h2.ships.opened;obtain ⟨B,Wq,rfl,-,-,hc⟩:=h2.members.opened;have HC:=hid hc;obtain ⟨n,hn⟩:∃ n,s.members.length=n:=⟨_,rfl⟩;obtain ⟨T,hT⟩:∃ n,s.ships.length=n:=⟨_,rfl⟩;have HN:=hid hn;have HT:=hid hT;rw [hn] at HC eX o8;rw [hT] at LJ o8;rw [hn,hT];clear h2 hc hS he hn hT;go_enter func44,ntmps44;go_wp2_with fail;change Code.wp _ _ _ _ (w.alloc (.cells #[.int .i64 s.limit,.slice A0 T Uq,.slice B n Wq] 25));obtain ⟨W,Nq,k0,Sq,eW⟩:=Q1y w 25 #[.int .i64 s.limit,.slice A0 T Uq,.slice B n Wq];rw [Nq];clear Nq;obtain ⟨gs,bq⟩:∃ x,w.heap.size=x:=⟨_,rfl⟩;rw [bq] at k0 eW ⊢;have K0:=hid k0;have HW:=Sq;have lr:gs < W.heap.size:=k0.lt;clear k0 bq
 go_loopw [3,4] (fun o t wr=>∃ (k:Nat),k <= T /\ t=.int .i64 k /\ LL wr W.heap.size o (s.Q6a k) /\ Ext W wr) (fun _ t _=>T - (intOf t).toNat)
 case atStart=>exact ⟨0,Nat.zero_le _,rfl,LL.nil _ _,Ext.refl _⟩
 case round =>
  obtain ⟨k,hk,rfl,kV,Sk⟩:=hrel;obtain ⟨w1,rfl⟩:∃ x,x=wr:=⟨_,rfl⟩;have c0:=(K0.out.ext Sk).cell 0;have c1:=(K0.out.ext Sk).cell 1;have c2:=(K0.out.ext Sk).cell 2;simp only [Go.Tw.gA,Go.Tw.gB,Go.Tw.gC] at c0 c1 c2;have m7:=hid Sk;have HO:=hid kV;clear Sk kV
  by_cases Tq:k < T
  . have Lj:(k:Int) < T:=by omega
    go_light
    go_wp2_with fail
    go_loopw [5,6] (fun r i wr=>∃ (m:Nat),m <= n /\ i=.int .i64 m /\ LL wr W.heap.size r (s.Q6d k m) /\ Ext w1 wr) (fun _ i _=>n - (intOf i).toNat)
    case atStart=>exact ⟨0,Nat.zero_le _,rfl,LL.nil _ _,Ext.refl _⟩
    case round =>
     obtain ⟨m,hm,rfl,t8,Mq⟩:=hrel;obtain ⟨w2,rfl⟩:∃ x,x=wr:=⟨_,rfl⟩;have m8:=m7.out.trans Mq;have d0:=(K0.out.ext m8).cell 0;have d1:=(K0.out.ext m8).cell 1;have d2:=(K0.out.ext m8).cell 2;simp only [Go.Tw.gA,Go.Tw.gB,Go.Tw.gC] at d0 d1 d2;have Ox:=hid Mq;have tg:=hid m8;have HR:=hid t8;clear Mq t8
     by_cases qw:m < n
     . have SG:(m:Int) < n:=by omega
       obtain ⟨bm,off,x0,y0,z0,Eo,Wv,-,-,e2,-,-,R6,-,-,-⟩:=HC.out m qw;subst Eo;obtain ⟨C,Oz,rfl,-,Z0,FX⟩:=R6.opened;have CJ:=o8.out m qw;obtain ⟨lc,mj⟩:∃ x,Q0c s.members m=x:=⟨_,rfl⟩;rw [mj] at CJ Z0 FX e2 R6;rw [CJ] at e2 Z0;obtain ⟨bc,oc,LG,_⟩:=FX 0 (by omega)
       subst LG;have V9:k + 1 <= Oz:=by omega
       have Y5:¬ ((0:Int) <= (k:Int) + 1 -> (Oz:Int) < (k:Int) + 1):=by omega
       have V5:¬ Oz=0:=by omega
       have U5:¬ (k:Int) + 1 < 0:=by omega
       have T5:((k:Int) + 1).toNat=k + 1:=by omega
       have Do:(k:Int) + 1 <= (Oz:Int):=by omega
       have Z2:IntKind.i64.wrap ((k:Int) + 1)=(k:Int) + 1:=Q3b _ (by omega) (by omega)
       have hxb:=Ext.box w2 (.cells #[] 3);have Yq:Q0n (w2.alloc (.cells #[] 3)) w2.heap.size 3 (Value.int .i64) (.slice (some ⟨w2.heap.size,0,none⟩) 0 0) []:=World.ownsRow_made w2 #[] 0 (Nat.le_refl _) (by unfold maxLen; omega) rfl
       have e2':=hxb.cell (tg.out.cell (HW.out.cell e2));have d2':=hxb.cell d2;have lt1:(lc.take (k + 1)).length=k + 1:=by rw [List.length_take]; omega
       have jV:=(X0p (by rw [CJ] at R6; exact R6) (show k + 1 <= lc.length by omega)).ext ((HW.out.trans tg.out).trans hxb)
       have Z3:Hid (∀ j u,((lc.take (k + 1)).map (Value.int .i64))[j]?=some u -> (w2.alloc (.cells #[] 3)).cell? ((⟨bc,oc,none⟩:Addr).add j)=some u):=Z7n jV lt1;have TQ:Hid (∀ u ∈ (lc.take (k + 1)).map (Value.int .i64),u.oneCell'=true):=by
        exact (by intro u hu; obtain ⟨y,_,rfl⟩:=List.mem_map.1 hu; rfl:∀ u ∈ (lc.take (k + 1)).map (Value.int .i64),u.oneCell'=true)
       have V8:Hid (((lc.take (k + 1)).map (Value.int .i64)).length=(k + 1) * 1):=hid (by rw [List.length_map,lt1]; omega)
       have tY:(w2.alloc (.cells #[] 3)).cell? ⟨bm,off + m * 5 + 2,none⟩=some (.slice (some ⟨bc,oc,none⟩) T Oz):=e2';have B7:=hid lt1;have mh:=hid mj;clear FX R6 jV e2 e2' lt1 mj hxb
       go_light
       go_wp2_with (at_builtin; refine wpList_append_own _ rfl _ _ 22 rfl (w2.heap.size) 3 n0 (.int .i64 0) 1 8 underlying22 ni nz0 nz1 nz2 rfl (by decide) _ _ _ rfl Yq ⟨bc,oc,none⟩ (k + 1) Oz ((lc.take (k + 1)).map (Value.int .i64)) rfl V8.out Z3.out TQ.out ?_ ?_ ?_ ?_; (focus (unfold maxLen; simp; omega)); (focus (simp; omega)); (focus (simp)); intro v' w4 Oq Pq _; refine halted ?_)
       have Uv:Ext w2 w4:=Below.trans (Ext.box w2 (.cells #[] 3)) (below_grown Yq Pq (Nat.le_refl _) (Ext.box w2 (.cells #[] 3)).size);have U1:Q0n w4 0 3 (.int .i64) v' (lc.take (k + 1)):=by
        refine Q0n.weaken ?_ (Nat.zero_le w2.heap.size);simp only [List.length_nil,Nat.zero_add,List.map_nil,List.nil_append] at Oq;unfold Q0n;rw [B7.out];exact Oq
       clear Oq Pq Yq tY d2';unfold Q1o;obtain ⟨Ah,ch,rfl,T7⟩:=U1.shape;rw [B7.out] at U1 T7 ⊢;have yj:s.Q6d k (m + 1)=Q7t (lc.take (k + 1)) (s.Q6d k m):=by rw [<- mh.out]; rfl
       have y6:∀ j,j < (s.Q6d k m).length -> ((s.Q6d k m).getD j []).length=k + 1:=Z7k (by rw [HN.out]; omega) (fun i h=>by rw [HN.out] at h; rw [o8.out i h]; omega)
       have R0:=X3h s k m;obtain ⟨us,mY,Bv⟩:=HR.out.ext Uv;have jr:us.length <= 8:=by rw [Bv.1]; omega
       have iV:=hid U1;obtain ⟨hh,jc⟩:∃ x,lc.take (k + 1)=x:=⟨_,rfl⟩;have jX:hh.length=k + 1:=by rw [<- jc]; exact B7.out
       rw [jc] at yj iV;obtain ⟨rt,J6⟩:∃ x,s.Q6d k m=x:=⟨_,rfl⟩;rw [J6] at yj y6 Bv R0;have qq:=hid yj;have gV:=hid y6;have ik:=hid Bv;have ic:=hid jX;have bj:Hid (∀ y ∈ us,(idV y).oneCell'=true):=Bv.one;have lY:Hid (us.length=rt.length):=hid Bv.1;have lh:=Ox.out.trans Uv;have K8:=hid lh;have eK:W.heap.size <= w4.heap.size:=Nat.le_trans tg.out.size Uv.size;have O8:=hid Uv;clear yj y6 Bv jX jc J6 U1 B7 mh Z3 TQ V8 lh Uv HR;have Co:=hid mY
       rcases mY.cells2 with ⟨rfl,jh⟩ | ⟨g0,cc,rfl,Wg,Qx,Qj,hcl⟩
       . have kY:=hid jh
         clear jh mY;go_wp2
         go_loopw [8] (fun a wr=>∃ (n1:Nat),n1 <= us.length /\ a=.int .i64 n1 /\ Q2e hh rt n1=Q2e hh rt rt.length /\ Ext w4 wr) (fun a _=>(intOf a).toNat)
         case atStart=>exact ⟨us.length,Nat.le_refl _,by rw [kY.out]; rfl,by rw [ik.out.1],Ext.refl _⟩
         case round =>
          obtain ⟨n1,Qw,rfl,hpos,Zx⟩:=hrel;have t6:=hid hpos; clear hpos;have hz:n1=0:=by
           have:=kY.out;rw [this] at Qw
           simpa using Qw
          have HZ:Hid (0=Q2e hh rt rt.length):=by rw [<- t6.out,hz]; exact rfl
          subst hz;obtain ⟨wq,rfl⟩:∃ x,x=wr:=⟨_,rfl⟩;go_wp2;refine Flow.region [.w,.p,.p,.p,.w,.p,.w,.last,.p,.p,.p,.last,.last] [0,1,2,3,4,5,6,7,8,9,10,11,12] [[],[],[],[1,2],[0,1,2,3],[],[5],[0,1,2,3,4,5,6],[],[],[8,9],[0,1,2,3,4,5,6,7,8,9,10],[0,1,2,3,4,5,6,7,8,9,10,11]] [7,11,12]
           [⟨fun v wz=>Q3j wz (v 0) wq.heap.size 22,fun _ _ _ hx h=>h.ext hx⟩,.c 1 (.slice (none) 0 0),.c 2 (.int .i64 0),.c 3 (.slice none 0 0),⟨fun v wz=>(fun v w'=>Q0n w' wq.heap.size 22 idV (v 4) (us.take 0)) v wz,fun _ _ _ hx h=>Q0n.below h hx⟩,.c 5 ((Value.slice Ah (k + 1) ch)),⟨fun v wz=>Q3q wz (v 6) (Value.slice Ah (k + 1) ch),fun _ _ _ hx h=>h.ext hx⟩,.none,.c 8 (.slice (none) 0 0),.c 9 (.int .i64 0),.c 10 (.slice none 0 0),.none,.none]
           [fun v w1 w'=>Q0n w' wq.heap.size 22 idV (v 7) (us.take 0 ++ [(Value.slice Ah (k + 1) ch)]) /\ Below wq.heap.size w1 w',fun v w1 w'=>Q0n w' wq.heap.size 22 idV (v 11) (us.take 0 ++ [(Value.slice Ah (k + 1) ch)] ++ us.drop 0) /\ Below wq.heap.size w1 w',fun v w1 w'=>v 12=v 11 /\ Q0n w' wq.heap.size 22 idV (v 11) (us.take 0 ++ [(Value.slice Ah (k + 1) ch)] ++ us.drop 0) /\ Below wq.heap.size w1 w'] (by kernel_rfl) rfl (by kernel_rfl) ⟨?g0,?g1,?g2,?g3,?g4,?g5,?g6,?g7,?g8,?g9,?g10,?g11,?g12,trivial⟩ ?post
          case g0=>
           intro v w1 hx;intro K hK;go_simp;exact hK _ _ (Ext.box _ _) (Q3j.made _ _ _ hx.size)
          case g1 | g2 | g5 | g8 | g9=>
           intro v w1 hx;refine ⟨_,fun w=>?_,rfl⟩;go_simp
          case g3 | g10=>
           intro v w1 hx;(repeat intro (zq:v _=_));refine ⟨_,fun w=>?_,rfl⟩;go_simp
          case g4=>
           intro v w1 hx (q0:Q3j w1 (v 0) wq.heap.size 22) (q1:v 1=_) (q2:v 2=_) (q3:v 3=_);intro K hK;have l1:(us.take 0).length=0:=by rw [List.length_take]; omega
           refine Q6b _ _ 72 rfl wq.heap.size 22 i0 (.slice none 0 0) 24 underlying72 hi fq mq iq rfl idV (v 0) (v 3) (us.take 0) (by go_simp) q0 (by go_simp) ?_ (fun y hy=>bj.out y (List.mem_of_mem_take hy)) (by omega) (by decide) hx.size (fun v' w' Yq Mq=>hK _ _ Mq Yq)
           rw [q3];exact ⟨none,0,by rw [l1],fun j hj=>by rw [l1] at hj; omega⟩
          case g6=>
           intro v w1 hx;(repeat intro (zq:v _=_));intro K hK;go_simp;exact hK _ _ (Ext.box _ _) (Q3q.made _ _ _)
          case g7=>
           intro v w1 hx _ (q1:v 1=_) (q2:v 2=_) (q3:v 3=_) (q4:(fun v w'=>Q0n w' wq.heap.size 22 idV (v 4) (us.take 0)) v w1) (q5:v 5=_) (q6:Q3q w1 (v 6) (Value.slice Ah (k + 1) ch));intro wl hT;obtain rfl:wl=w1:=hT;intro bb hbb;subst hbb;intro K hK;refine Q1s _ _ 72 rfl wq.heap.size 22 i0 (.slice none 0 0) 24 underlying72 hi fq mq iq rfl idV (v 4) (v 6) (us.take 0) [(Value.slice Ah (k + 1) ch)] (by go_simp) q4 (by go_simp) (Q3q.src q6) (fun y hy=>by rw [List.mem_singleton] at hy; rw [hy]; exact (show (idV (Value.slice Ah (k + 1) ch)).oneCell'=true from rfl)) (by rw [List.length_take,List.length_singleton]; omega) (by decide) hx.size (fun v' w' Yq hg=>hK _ _ ⟨Yq,below_grown q4 hg (Nat.le_refl _) hx.size⟩)
          case g11=>
           intro v w1 hx _ (q1:v 1=_) (q2:v 2=_) (q3:v 3=_) _ (q5:v 5=_) _ (q8:v 8=_) (q9:v 9=_) (q10:v 10=_);intro wl hT;replace hT:(fun v w1 w'=>Q0n w' wq.heap.size 22 idV (v 7) (us.take 0 ++ [(Value.slice Ah (k + 1) ch)]) /\ Below wq.heap.size w1 w') v w1 wl:=hT;intro bb hbb;subst hbb;obtain ⟨L0,Ew⟩:=hT;intro K hK;have pq:wq.heap.size <= wl.heap.size:=Nat.le_trans hx.size Ew.size;have l2:(us.drop 0).length=us.length - 0:=List.length_drop;refine Q1s _ _ 72 rfl wq.heap.size 22 i0 (.slice none 0 0) 24 underlying72 hi fq mq iq rfl idV (v 7) (v 10) (us.take 0 ++ [(Value.slice Ah (k + 1) ch)]) (us.drop 0) (by go_simp) L0 (by go_simp) ?_ (fun y hy=>bj.out y (List.mem_of_mem_drop hy)) (by rw [List.length_append,List.length_take,List.length_singleton]; omega) (by decide) pq (fun v' w' Yq hg=>hK _ _ ⟨Yq,Ew.trans (below_grown L0 hg (Nat.le_refl _) pq)⟩)
           rw [q10];exact ⟨none,0,by rw [l2,kY.out]; rfl,fun j hj=>by rw [l2,kY.out] at hj; simp at hj⟩
          case g12=>
           intro v w1 hx _ (q1:v 1=_) (q2:v 2=_) (q3:v 3=_) _ (q5:v 5=_) _ (q8:v 8=_) (q9:v 9=_) (q10:v 10=_);intro wl hT;replace hT:(fun v w1 w'=>Q0n w' wq.heap.size 22 idV (v 11) (us.take 0 ++ [(Value.slice Ah (k + 1) ch)] ++ us.drop 0) /\ Below wq.heap.size w1 w') v w1 wl:=hT;intro bb hbb;subst hbb;intro K hK;go_simp;exact hK _ _ ⟨rfl,hT⟩
          case post =>
           intro v w1 hx (q0:Q3j w1 (v 0) wq.heap.size 22);(iterate 3 intro (zq:v _=_));intro (q4:(fun v w'=>Q0n w' wq.heap.size 22 idV (v 4) (us.take 0)) v w1);(iterate 1 intro (zq:v _=_));intro (q6:Q3q w1 (v 6) (Value.slice Ah (k + 1) ch));(iterate 3 intro (zq:v _=_));intro w2 hE;replace hE:(fun v w1 w'=>v 12=v 11 /\ Q0n w' wq.heap.size 22 idV (v 11) (us.take 0 ++ [(Value.slice Ah (k + 1) ch)] ++ us.drop 0) /\ Below wq.heap.size w1 w') v w1 w2:=hE;simp only [Flow.acts,Act.put];go_simp;obtain ⟨_,e2,e3⟩:=hE;have kx:=Y0t hx e3;have py:=RL.insert (ik.out.ext (Zx.trans kx)) (iV.out.below (Zx.trans kx)) (Nat.zero_le rt.length);have ny:=e2.weaken (show W.heap.size <= wq.heap.size from Nat.le_trans eK Zx.size)
           have s6:Hid (s.Q6d k (m + 1)=rt.take 0 ++ [hh] ++ rt.drop 0):=qq.out.trans (Z3f HZ.out (.inl rfl));have XQ:Hid (RL _ _ _):=py;have Qy:=(K8.out.trans Zx).trans kx;clear py q0 q4 q6 hx e3 kx;go_wp2
           all_goals
            go_roundw
            case rel=>exact ⟨m + 1,by omega,by go_num,⟨_,ny,by rw [s6.out]; exact XQ.out⟩,Qy⟩
            case measure=>simp [intOf]; omega
       . have Yz:=hid hcl
         clear mY hcl;go_wp2
         go_loopw [8] (fun a wr=>∃ (n1:Nat),n1 <= us.length /\ a=.int .i64 n1 /\ Q2e hh rt n1=Q2e hh rt rt.length /\ Ext w4 wr) (fun a _=>(intOf a).toNat)
         case atStart=>exact ⟨us.length,Nat.le_refl _,rfl,by rw [ik.out.1],Ext.refl _⟩
         case round =>
          obtain ⟨n1,Qw,rfl,hpos,Zx⟩:=hrel;have t6:=hid hpos; clear hpos;obtain ⟨wq0,rfl⟩:∃ x,x=wr:=⟨_,rfl⟩
          by_cases hz:n1=0
          . have HZ:Hid (n1=Q2e hh rt rt.length):=by rw [<- t6.out,hz]; exact rfl
            have r4:Hid (n1=0 ∨ rt.getD (n1 - 1) [] ≠ hh):=.inl hz;have nz1:¬ (0:Int) < (n1:Int):=by omega
            have nz2:¬ cc < n1:=by omega
            clear hz;obtain ⟨wq,rfl⟩:∃ x,x=wq0:=⟨_,rfl⟩;go_wp2;refine Flow.region [.w,.p,.p,.p,.w,.p,.w,.last,.p,.p,.p,.last,.last] [0,1,2,3,4,5,6,7,8,9,10,11,12] [[],[],[],[1,2],[0,1,2,3],[],[5],[0,1,2,3,4,5,6],[],[],[8,9],[0,1,2,3,4,5,6,7,8,9,10],[0,1,2,3,4,5,6,7,8,9,10,11]] [7,11,12]
             [⟨fun v wz=>Q3j wz (v 0) wq.heap.size 22,fun _ _ _ hx h=>h.ext hx⟩,.c 1 (.slice (some ⟨g0,0,none⟩) us.length cc),.c 2 (.int .i64 n1),.c 3 (.slice (some ⟨g0,0,none⟩) n1 cc),⟨fun v wz=>(fun v w'=>Q0n w' wq.heap.size 22 idV (v 4) (us.take n1)) v wz,fun _ _ _ hx h=>Q0n.below h hx⟩,.c 5 ((Value.slice Ah (k + 1) ch)),⟨fun v wz=>Q3q wz (v 6) (Value.slice Ah (k + 1) ch),fun _ _ _ hx h=>h.ext hx⟩,.none,.c 8 (.slice (some ⟨g0,0,none⟩) us.length cc),.c 9 (.int .i64 n1),.c 10 (.slice (if cc=n1 then some ⟨g0,0,none⟩ else some ⟨g0,0 + n1,none⟩) (us.length - n1) (cc - n1)),.none,.none]
             [fun v w1 w'=>Q0n w' wq.heap.size 22 idV (v 7) (us.take n1 ++ [(Value.slice Ah (k + 1) ch)]) /\ Below wq.heap.size w1 w',fun v w1 w'=>Q0n w' wq.heap.size 22 idV (v 11) (us.take n1 ++ [(Value.slice Ah (k + 1) ch)] ++ us.drop n1) /\ Below wq.heap.size w1 w',fun v w1 w'=>v 12=v 11 /\ Q0n w' wq.heap.size 22 idV (v 11) (us.take n1 ++ [(Value.slice Ah (k + 1) ch)] ++ us.drop n1) /\ Below wq.heap.size w1 w'] (by kernel_rfl) rfl (by kernel_rfl) ⟨?g0,?g1,?g2,?g3,?g4,?g5,?g6,?g7,?g8,?g9,?g10,?g11,?g12,trivial⟩ ?post
            case g0=>
             intro v w1 hx;intro K hK;go_simp;exact hK _ _ (Ext.box _ _) (Q3j.made _ _ _ hx.size)
            case g1 | g2 | g5 | g8 | g9=>
             intro v w1 hx;refine ⟨_,fun w=>?_,rfl⟩;go_simp
            case g3 | g10=>
             intro v w1 hx;(repeat intro (zq:v _=_));refine ⟨_,fun w=>?_,rfl⟩;go_simp
            case g4=>
             intro v w1 hx (q0:Q3j w1 (v 0) wq.heap.size 22) (q1:v 1=_) (q2:v 2=_) (q3:v 3=_);intro K hK;have l1:(us.take n1).length=n1:=by rw [List.length_take]; omega
             refine Q6b _ _ 72 rfl wq.heap.size 22 i0 (.slice none 0 0) 24 underlying72 hi fq mq iq rfl idV (v 0) (v 3) (us.take n1) (by go_simp) q0 (by go_simp) ?_ (fun y hy=>bj.out y (List.mem_of_mem_take hy)) (by omega) (by decide) hx.size (fun v' w' Yq Mq=>hK _ _ Mq Yq)
             rw [q3];exact ⟨_,_,by rw [l1],fun j hj=>⟨g0,0,rfl,by rw [List.getElem_take]; exact hx.cell (Zx.cell (Yz.out j (by omega)))⟩⟩
            case g6=>
             intro v w1 hx;(repeat intro (zq:v _=_));intro K hK;go_simp;exact hK _ _ (Ext.box _ _) (Q3q.made _ _ _)
            case g7=>
             intro v w1 hx _ (q1:v 1=_) (q2:v 2=_) (q3:v 3=_) (q4:(fun v w'=>Q0n w' wq.heap.size 22 idV (v 4) (us.take n1)) v w1) (q5:v 5=_) (q6:Q3q w1 (v 6) (Value.slice Ah (k + 1) ch));intro wl hT;obtain rfl:wl=w1:=hT;intro bb hbb;subst hbb;intro K hK;refine Q1s _ _ 72 rfl wq.heap.size 22 i0 (.slice none 0 0) 24 underlying72 hi fq mq iq rfl idV (v 4) (v 6) (us.take n1) [(Value.slice Ah (k + 1) ch)] (by go_simp) q4 (by go_simp) (Q3q.src q6) (fun y hy=>by rw [List.mem_singleton] at hy; rw [hy]; exact (show (idV (Value.slice Ah (k + 1) ch)).oneCell'=true from rfl)) (by rw [List.length_take,List.length_singleton]; omega) (by decide) hx.size (fun v' w' Yq hg=>hK _ _ ⟨Yq,below_grown q4 hg (Nat.le_refl _) hx.size⟩)
            case g11=>
             intro v w1 hx _ (q1:v 1=_) (q2:v 2=_) (q3:v 3=_) _ (q5:v 5=_) _ (q8:v 8=_) (q9:v 9=_) (q10:v 10=_);intro wl hT;replace hT:(fun v w1 w'=>Q0n w' wq.heap.size 22 idV (v 7) (us.take n1 ++ [(Value.slice Ah (k + 1) ch)]) /\ Below wq.heap.size w1 w') v w1 wl:=hT;intro bb hbb;subst hbb;obtain ⟨L0,Ew⟩:=hT;intro K hK;have pq:wq.heap.size <= wl.heap.size:=Nat.le_trans hx.size Ew.size;have l2:(us.drop n1).length=us.length - n1:=List.length_drop;have Xx:Hid (∀ j (hj:j < us.length),wl.cell? ⟨g0,0 + j,none⟩=some (idV us[j])):=fun j hj=>(Ew.cell (p:=⟨g0,0 + j,none⟩) (Nat.lt_of_lt_of_le Qj Zx.size)).trans (hx.cell (Zx.cell (Yz.out j hj)));refine Q1s _ _ 72 rfl wq.heap.size 22 i0 (.slice none 0 0) 24 underlying72 hi fq mq iq rfl idV (v 7) (v 10) (us.take n1 ++ [(Value.slice Ah (k + 1) ch)]) (us.drop n1) (by go_simp) L0 (by go_simp) ?_ (fun y hy=>bj.out y (List.mem_of_mem_drop hy)) (by rw [List.length_append,List.length_take,List.length_singleton]; omega) (by decide) pq (fun v' w' Yq hg=>hK _ _ ⟨Yq,Ew.trans (below_grown L0 hg (Nat.le_refl _) pq)⟩)
             rw [q10];exact ⟨_,_,by rw [l2],fun j hj=>⟨g0,0 + n1,by rw [if_neg (by omega)],by rw [List.getElem_drop,Nat.add_assoc]; exact Xx.out (n1 + j) (by omega)⟩⟩
            case g12=>
             intro v w1 hx _ (q1:v 1=_) (q2:v 2=_) (q3:v 3=_) _ (q5:v 5=_) _ (q8:v 8=_) (q9:v 9=_) (q10:v 10=_);intro wl hT;replace hT:(fun v w1 w'=>Q0n w' wq.heap.size 22 idV (v 11) (us.take n1 ++ [(Value.slice Ah (k + 1) ch)] ++ us.drop n1) /\ Below wq.heap.size w1 w') v w1 wl:=hT;intro bb hbb;subst hbb;intro K hK;go_simp;exact hK _ _ ⟨rfl,hT⟩
            case post =>
             intro v w1 hx (q0:Q3j w1 (v 0) wq.heap.size 22);(iterate 3 intro (zq:v _=_));intro (q4:(fun v w'=>Q0n w' wq.heap.size 22 idV (v 4) (us.take n1)) v w1);(iterate 1 intro (zq:v _=_));intro (q6:Q3q w1 (v 6) (Value.slice Ah (k + 1) ch));(iterate 3 intro (zq:v _=_));intro w2 hE;replace hE:(fun v w1 w'=>v 12=v 11 /\ Q0n w' wq.heap.size 22 idV (v 11) (us.take n1 ++ [(Value.slice Ah (k + 1) ch)] ++ us.drop n1) /\ Below wq.heap.size w1 w') v w1 w2:=hE;simp only [Flow.acts,Act.put];go_simp;obtain ⟨_,e2,e3⟩:=hE;have kx:=Y0t hx e3;have py:=RL.insert (ik.out.ext (Zx.trans kx)) (iV.out.below (Zx.trans kx)) (show n1 <= rt.length by have:=lY.out; omega)
             have ny:=e2.weaken (show W.heap.size <= wq.heap.size from Nat.le_trans eK Zx.size)
             have s6:Hid (s.Q6d k (m + 1)=rt.take n1 ++ [hh] ++ rt.drop n1):=qq.out.trans (Z3f HZ.out r4.out);have XQ:Hid (RL _ _ _):=py;have Qy:=(K8.out.trans Zx).trans kx;clear py q0 q4 q6 hx e3 kx;go_wp2
             all_goals
              go_roundw
              case rel=>exact ⟨m + 1,by omega,by go_num,⟨_,ny,by rw [s6.out]; exact XQ.out⟩,Qy⟩
              case measure=>simp [intOf]; omega
          . have i1:(0:Int) < (n1:Int):=by omega
            have i2:(0:Int) <= (n1:Int) - 1:=by omega
            have i3:(n1:Int) - 1 < (us.length:Int):=by omega
            have i4:((n1:Int) - 1).toNat=n1 - 1:=by omega
            have nz2:¬ cc < n1:=by omega
            have Xq:=Zx.cell (Yz.out (n1 - 1) (by omega))
            rw [Nat.zero_add] at Xq;have Jk:=(ik.out.ext Zx).2 (n1 - 1) (by have:=lY.out; omega)
            rw [Q0t _ (show n1 - 1 < us.length by omega)] at Jk
            have O1:=gV.out (n1 - 1) (by have:=lY.out; omega)
            have EX:Q2e hh rt n1=if Q2g hh (rt.getD (n1 - 1) []) then Q2e hh rt (n1 - 1) else n1:=by
             obtain ⟨m,rfl⟩:∃ m,n1=m + 1:=⟨n1 - 1,by omega⟩
             rfl
            obtain ⟨ml,qw⟩:∃ ml,rt.getD (n1 - 1) []=ml:=⟨_,rfl⟩;have gX:=hid qw;rw [qw] at Jk EX O1;have T0:Q2g hh ml=Q5v hh ml:=by unfold Q2g; rw [if_pos (ic.out.trans O1.symm)]
            rw [T0] at EX;have Jk:Q0e wq0 (idV (us[n1 - 1]'(by omega))) ml:=Jk.ints (by omega)
            have jg:=hid Jk;have U0:Hid (hh.length=ml.length):=ic.out.trans O1.symm;have J7:Hid (Q0e w4 (.slice Ah (k + 1) ch) hh):=iV.out.ints (by rw [ic.out]; omega)
            have gh:=hid EX;clear qw EX hz Jk T0 O1;cases hbf:Q5v hh ml with
            | true =>
              go_wp2_with (go_at_call 117; refine (X5e _ _ _ _ _ (J7.out.ext Zx) jg.out U0.out).mono ?_; rintro e w5 ⟨rfl,Cq⟩);go_roundw
              case rel=>exact ⟨n1 - 1,by omega,by go_num,by rw [<- t6.out,gh.out,hbf]; rfl,Zx.trans Cq⟩
              case measure=>simp [intOf]; omega
            | false =>
              have HZ:Hid (n1=Q2e hh rt rt.length):=by rw [<- t6.out,gh.out,hbf]; rfl
              cases hsm:decide (ml=hh) with
              | true =>
                have fc:=Xq;go_wp2_with (first | (go_at_call 117; refine (X5e _ _ _ _ _ (J7.out.ext Zx) jg.out U0.out).mono ?_; rintro e w5 ⟨rfl,Cq⟩; have r6:=Cq.cell Xq) | (go_at_call 54; refine (Q3k _ _ _ _ _ (jg.out.ext Cq) ((J7.out.ext Zx).ext Cq)).mono ?_; rintro e w6 ⟨rfl,Kj⟩; rw [hsm]))
                go_roundw
                case rel=>exact ⟨m + 1,by omega,by go_num,⟨us,Co.out.below (Zx.trans (Cq.trans Kj)),by rw [qq.out,J5t HZ.out (by omega) (gX.out.trans (of_decide_eq_true hsm))]; exact ik.out.ext (Zx.trans (Cq.trans Kj))⟩,K8.out.trans (Zx.trans (Cq.trans Kj))⟩
                case measure=>simp [intOf]; omega
              | false =>
                have r4:Hid (n1=0 ∨ rt.getD (n1 - 1) [] ≠ hh):=.inr (by rw [gX.out]; exact of_decide_eq_false hsm)
                go_wp2_with (first | (go_at_call 117; refine (X5e _ _ _ _ _ (J7.out.ext Zx) jg.out U0.out).mono ?_; rintro e w5 ⟨rfl,Cq⟩; have r6:=Cq.cell Xq) | (go_at_call 54; refine (Q3k _ _ _ _ _ (jg.out.ext Cq) ((J7.out.ext Zx).ext Cq)).mono ?_; rintro e w6 ⟨rfl,Kj⟩; rw [hsm]))
                replace Zx:=Zx.trans (Cq.trans Kj);clear Cq Kj Xq r6 jg;obtain ⟨wq,rfl⟩:∃ x,x=w6:=⟨_,rfl⟩;refine Flow.region [.w,.p,.p,.p,.w,.p,.w,.last,.p,.p,.p,.last,.last] [0,1,2,3,4,5,6,7,8,9,10,11,12] [[],[],[],[1,2],[0,1,2,3],[],[5],[0,1,2,3,4,5,6],[],[],[8,9],[0,1,2,3,4,5,6,7,8,9,10],[0,1,2,3,4,5,6,7,8,9,10,11]] [7,11,12]
                 [⟨fun v wz=>Q3j wz (v 0) wq.heap.size 22,fun _ _ _ hx h=>h.ext hx⟩,.c 1 (.slice (some ⟨g0,0,none⟩) us.length cc),.c 2 (.int .i64 n1),.c 3 (.slice (some ⟨g0,0,none⟩) n1 cc),⟨fun v wz=>(fun v w'=>Q0n w' wq.heap.size 22 idV (v 4) (us.take n1)) v wz,fun _ _ _ hx h=>Q0n.below h hx⟩,.c 5 ((Value.slice Ah (k + 1) ch)),⟨fun v wz=>Q3q wz (v 6) (Value.slice Ah (k + 1) ch),fun _ _ _ hx h=>h.ext hx⟩,.none,.c 8 (.slice (some ⟨g0,0,none⟩) us.length cc),.c 9 (.int .i64 n1),.c 10 (.slice (if cc=n1 then some ⟨g0,0,none⟩ else some ⟨g0,0 + n1,none⟩) (us.length - n1) (cc - n1)),.none,.none]
                 [fun v w1 w'=>Q0n w' wq.heap.size 22 idV (v 7) (us.take n1 ++ [(Value.slice Ah (k + 1) ch)]) /\ Below wq.heap.size w1 w',fun v w1 w'=>Q0n w' wq.heap.size 22 idV (v 11) (us.take n1 ++ [(Value.slice Ah (k + 1) ch)] ++ us.drop n1) /\ Below wq.heap.size w1 w',fun v w1 w'=>v 12=v 11 /\ Q0n w' wq.heap.size 22 idV (v 11) (us.take n1 ++ [(Value.slice Ah (k + 1) ch)] ++ us.drop n1) /\ Below wq.heap.size w1 w'] (by kernel_rfl) rfl (by kernel_rfl) ⟨?g0,?g1,?g2,?g3,?g4,?g5,?g6,?g7,?g8,?g9,?g10,?g11,?g12,trivial⟩ ?post
                case g0=>
                 intro v w1 hx;intro K hK;go_simp;exact hK _ _ (Ext.box _ _) (Q3j.made _ _ _ hx.size)
                case g1 | g2 | g5 | g8 | g9=>
                 intro v w1 hx;refine ⟨_,fun w=>?_,rfl⟩;go_simp
                case g3 | g10=>
                 intro v w1 hx;(repeat intro (zq:v _=_));refine ⟨_,fun w=>?_,rfl⟩;go_simp
                case g4=>
                 intro v w1 hx (q0:Q3j w1 (v 0) wq.heap.size 22) (q1:v 1=_) (q2:v 2=_) (q3:v 3=_);intro K hK;have l1:(us.take n1).length=n1:=by rw [List.length_take]; omega
                 refine Q6b _ _ 72 rfl wq.heap.size 22 i0 (.slice none 0 0) 24 underlying72 hi fq mq iq rfl idV (v 0) (v 3) (us.take n1) (by go_simp) q0 (by go_simp) ?_ (fun y hy=>bj.out y (List.mem_of_mem_take hy)) (by omega) (by decide) hx.size (fun v' w' Yq Mq=>hK _ _ Mq Yq)
                 rw [q3];exact ⟨_,_,by rw [l1],fun j hj=>⟨g0,0,rfl,by rw [List.getElem_take]; exact hx.cell (Zx.cell (Yz.out j (by omega)))⟩⟩
                case g6=>
                 intro v w1 hx;(repeat intro (zq:v _=_));intro K hK;go_simp;exact hK _ _ (Ext.box _ _) (Q3q.made _ _ _)
                case g7=>
                 intro v w1 hx _ (q1:v 1=_) (q2:v 2=_) (q3:v 3=_) (q4:(fun v w'=>Q0n w' wq.heap.size 22 idV (v 4) (us.take n1)) v w1) (q5:v 5=_) (q6:Q3q w1 (v 6) (Value.slice Ah (k + 1) ch));intro wl hT;obtain rfl:wl=w1:=hT;intro bb hbb;subst hbb;intro K hK;refine Q1s _ _ 72 rfl wq.heap.size 22 i0 (.slice none 0 0) 24 underlying72 hi fq mq iq rfl idV (v 4) (v 6) (us.take n1) [(Value.slice Ah (k + 1) ch)] (by go_simp) q4 (by go_simp) (Q3q.src q6) (fun y hy=>by rw [List.mem_singleton] at hy; rw [hy]; exact (show (idV (Value.slice Ah (k + 1) ch)).oneCell'=true from rfl)) (by rw [List.length_take,List.length_singleton]; omega) (by decide) hx.size (fun v' w' Yq hg=>hK _ _ ⟨Yq,below_grown q4 hg (Nat.le_refl _) hx.size⟩)
                case g11=>
                 intro v w1 hx _ (q1:v 1=_) (q2:v 2=_) (q3:v 3=_) _ (q5:v 5=_) _ (q8:v 8=_) (q9:v 9=_) (q10:v 10=_);intro wl hT;replace hT:(fun v w1 w'=>Q0n w' wq.heap.size 22 idV (v 7) (us.take n1 ++ [(Value.slice Ah (k + 1) ch)]) /\ Below wq.heap.size w1 w') v w1 wl:=hT;intro bb hbb;subst hbb;obtain ⟨L0,Ew⟩:=hT;intro K hK;have pq:wq.heap.size <= wl.heap.size:=Nat.le_trans hx.size Ew.size;have l2:(us.drop n1).length=us.length - n1:=List.length_drop;have Xx:Hid (∀ j (hj:j < us.length),wl.cell? ⟨g0,0 + j,none⟩=some (idV us[j])):=fun j hj=>(Ew.cell (p:=⟨g0,0 + j,none⟩) (Nat.lt_of_lt_of_le Qj Zx.size)).trans (hx.cell (Zx.cell (Yz.out j hj)));refine Q1s _ _ 72 rfl wq.heap.size 22 i0 (.slice none 0 0) 24 underlying72 hi fq mq iq rfl idV (v 7) (v 10) (us.take n1 ++ [(Value.slice Ah (k + 1) ch)]) (us.drop n1) (by go_simp) L0 (by go_simp) ?_ (fun y hy=>bj.out y (List.mem_of_mem_drop hy)) (by rw [List.length_append,List.length_take,List.length_singleton]; omega) (by decide) pq (fun v' w' Yq hg=>hK _ _ ⟨Yq,Ew.trans (below_grown L0 hg (Nat.le_refl _) pq)⟩)
                 rw [q10];exact ⟨_,_,by rw [l2],fun j hj=>⟨g0,0 + n1,by rw [if_neg (by omega)],by rw [List.getElem_drop,Nat.add_assoc]; exact Xx.out (n1 + j) (by omega)⟩⟩
                case g12=>
                 intro v w1 hx _ (q1:v 1=_) (q2:v 2=_) (q3:v 3=_) _ (q5:v 5=_) _ (q8:v 8=_) (q9:v 9=_) (q10:v 10=_);intro wl hT;replace hT:(fun v w1 w'=>Q0n w' wq.heap.size 22 idV (v 11) (us.take n1 ++ [(Value.slice Ah (k + 1) ch)] ++ us.drop n1) /\ Below wq.heap.size w1 w') v w1 wl:=hT;intro bb hbb;subst hbb;intro K hK;go_simp;exact hK _ _ ⟨rfl,hT⟩
                case post =>
                 intro v w1 hx (q0:Q3j w1 (v 0) wq.heap.size 22);(iterate 3 intro (zq:v _=_));intro (q4:(fun v w'=>Q0n w' wq.heap.size 22 idV (v 4) (us.take n1)) v w1);(iterate 1 intro (zq:v _=_));intro (q6:Q3q w1 (v 6) (Value.slice Ah (k + 1) ch));(iterate 3 intro (zq:v _=_));intro w2 hE;replace hE:(fun v w1 w'=>v 12=v 11 /\ Q0n w' wq.heap.size 22 idV (v 11) (us.take n1 ++ [(Value.slice Ah (k + 1) ch)] ++ us.drop n1) /\ Below wq.heap.size w1 w') v w1 w2:=hE;simp only [Flow.acts,Act.put];go_simp;obtain ⟨_,e2,e3⟩:=hE;have kx:=Y0t hx e3;have py:=RL.insert (ik.out.ext (Zx.trans kx)) (iV.out.below (Zx.trans kx)) (show n1 <= rt.length by have:=lY.out; omega)
                 have ny:=e2.weaken (show W.heap.size <= wq.heap.size from Nat.le_trans eK Zx.size)
                 have s6:Hid (s.Q6d k (m + 1)=rt.take n1 ++ [hh] ++ rt.drop n1):=qq.out.trans (Z3f HZ.out r4.out);have XQ:Hid (RL _ _ _):=py;have Qy:=(K8.out.trans Zx).trans kx;clear py q0 q4 q6 hx e3 kx;go_wp2
                 all_goals
                  go_roundw
                  case rel=>exact ⟨m + 1,by omega,by go_num,⟨_,ny,by rw [s6.out]; exact XQ.out⟩,Qy⟩
                  case measure=>simp [intOf]; omega
     . have se:m=n:=by omega
       subst se;have pq:=X3h s k m;have ec:(s.Q6a k).length <= 6 * 8:=Nat.le_trans (X4y s k) (Nat.mul_le_mul (by omega) (by rw [HN.out]; omega))
       have uz:Hid ((s.Q6d k m).length <= 2000):=hid (by omega)
       have ac:Hid ((s.Q6a k).length <= 2000):=hid (by omega)
       have Zd:Hid (W.heap.size <= w2.heap.size):=hid tg.out.size;have yj:s.Q6a (k + 1)=s.Q6a k ++ s.Q6d k m:=by rw [<- HN.out]; rfl
       have qq:=hid yj;have L4:True:=trivial;clear pq ec yj;go_wp2_with (refine Q1r (o:=⟨some 74,_,_,_,_,_⟩) rfl ?_; refine X9l (.tmp 72) (.tmp 73) rfl rfl (HO.out.ext Ox.out) rfl HR.out ac.out uz.out Zd.out ?_; intro v' w9 Oq Fj);have Ww:=hid Oq;have Cg:Hid (Ext W w9):=Below.trans tg.out Fj;clear Oq Fj;go_wp2;go_roundw
       case rel=>exact ⟨k + 1,by omega,by go_num,by rw [qq.out]; exact Ww.out,Cg.out⟩
       case measure=>simp [intOf]; omega
  . have Yd:k=T:=by omega
    subst Yd;have he:s.hist=s.Q6a k:=by rw [<- HT.out]; rfl
    have HE:=hid he;clear he;go_wp2;go_ret;exact ⟨_,rfl,by rw [HE.out]; exact HO.out.weaken HW.out.size,HW.out.trans m7.out⟩
theorem J7h {h:List (List Int)} {p:List Rul} (hl:p.length=h.length) (he:∀ j,j < h.length -> Q0k p j=h.getD j []):Q0q h p=0:=by
 rw [Q2p]
 apply List.ext_getElem
 . simpa using hl
 . intro i h1 h2
   have:=he i h2;unfold Q0k at this;rw [Q0t _ h2,Q0t _ (by omega)] at this
   simpa using this
theorem J6w {h:List (List Int)} {p:List Rul} {j:Nat} (hl:p.length=h.length) (hj:j < h.length) (hne:Q0k p j ≠ h.getD j []):Q0q h p=11:=by
 unfold Q0q;rw [if_neg (by simpa using hl),if_pos]
 intro he
 apply hne
 unfold Q0k;rw [Q0t _ hj,Q0t _ (show j < p.length by omega)]
 have:=congrArg (fun l=>l[j]?) he
 simpa [List.getElem?_eq_getElem hj,List.getElem?_eq_getElem (show j < p.length by omega)] using this
theorem J4r {h:List (List Int)} {p:List Rul} (hl:p.length ≠ h.length):Q0q h p=2:=by unfold Q0q; rw [if_pos hl]
theorem X0l (w:World) (v u:Value) (s:Q0b) (p:List Rul) (hv:Q0g w v s) (hu:Q0m w u p) (he:s.err=0) :
    Calls prog 28 #[v,u] w fun e w'=>e=.returned (.int .i64 (Q0q s.hist p)) /\ Ext w w':=by
 have hS:=Q0w.of he;have jX:=X8p hS;have Bo:=J5f hS;have ke:=hid hS;have HV:=hid hv;have Xd:=hid he;obtain ⟨a,b,rfl,-⟩:=hv;have ha:∃ A n c,a=.slice A n c:=by obtain ⟨_,_,e,h2⟩:=HV.out; cases e; obtain ⟨A,c,e,-⟩:=h2.ships.opened; exact ⟨A,_,c,e⟩
 have hb:∃ A n c,b=.slice A n c:=by obtain ⟨_,_,e,h2⟩:=HV.out; cases e; obtain ⟨A,c,e,-⟩:=h2.members.opened; exact ⟨A,_,c,e⟩
 obtain ⟨A1,n1,ca1,rfl⟩:=ha;obtain ⟨A2,n2,ca2,rfl⟩:=hb;obtain ⟨R,rfl,hr⟩:=hu;obtain ⟨AR,cr,rfl,-,-,Kx⟩:=hr.opened;have Uw:=hid Kx;obtain ⟨n,hn⟩:∃ n,p.length=n:=⟨_,rfl⟩;have HN:=hid hn;rw [hn] at Uw ⊢;clear hS he hr Kx hn;go_enter func28,ntmps28;go_wp2_with fail;obtain ⟨W,Nq,k0,k1,Sq,eW⟩:=Q3p w 25 #[.int .i64 s.limit,.slice A1 n1 ca1,.slice A2 n2 ca2] 47 #[.slice AR n cr];rw [Nq];clear Nq;have jY:=hid (HV.out.ext Sq.out);obtain ⟨gs,bq⟩:∃ x,w.heap.size=x:=⟨_,rfl⟩;rw [bq] at k0 k1 eW ⊢;have K1:=hid k1;have c0:=k0.cell 0;have c1:=k0.cell 1;have c2:=k0.cell 2;simp only [Go.Tw.gA,Go.Tw.gB,Go.Tw.gC] at c0 c1 c2;clear k0 k1 bq;go_wp2_with (go_at_call 44; refine (Y2d _ _ s jY.out Xd.out).mono ?_; rintro e wh ⟨xh,rfl,Mv,Wd⟩; refine halted ?_);have fh:=Z9h ke.out Mv;obtain ⟨AH,ch,rfl,-,-,T7⟩:=fh.opened;obtain ⟨H,hH⟩:∃ x,s.hist.length=x:=⟨_,rfl⟩;have HH:=hid hH;have PY:=hid T7;rw [hH] at jX PY ⊢;have Lq:=hid (Sq.out.trans Wd);have Rk:=hid (K1.out.ext Wd);have d0:wh.cell? ⟨gs + 1,0,none⟩=some (.slice AR n cr):=Rk.out.cell 0;clear Mv fh T7 hH Bo Wd c0 c1 c2;unfold Q1o
 by_cases iY:n=H
 . have hI:((n:Int) != (H:Int))=false:=by simp [iY]
   subst iY;go_wp2_with fail;clear d0
   go_loopw [6] (fun i wr=>∃ k:Nat,k <= n /\ i=.int .i64 k /\ (∀ j,j < k -> Q0k p j=s.hist.getD j []) /\ Ext wh wr) (fun i _=>n - (intOf i).toNat)
   case atStart=>exact ⟨0,Nat.zero_le _,rfl,fun j h=>absurd h (Nat.not_lt_zero _),Ext.refl _⟩
   case round =>
    obtain ⟨k,hk,rfl,fw,lj⟩:=hrel;have C2:=hid fw;have Qg:=hid lj;have Dq:Ext w wr:=Lq.out.trans lj;have C4:=hid (Rk.out.ext lj)
    by_cases Tq:k < n
    . have Lj:(k:Int) < n:=by omega
      obtain ⟨b1,o1,x,rfl,-,e0,-,Wk⟩:=Uw.out k Tq;obtain ⟨b2,o2,y,rfl,-,f0,Xz⟩:=PY.out k Tq;replace e0:=Dq.cell e0;replace f0:=lj.cell f0;have N6:=hid (fun (w1:World) (hx:Ext wr w1)=>Q3k w1 _ _ _ _ ((Wk.ext Dq).ext hx) ((Xz.ext lj).ext hx));obtain ⟨X,Rq,rfl,-,-,-⟩:=Wk.opened;obtain ⟨Y,Jq,rfl,-,-,-⟩:=Xz.opened;obtain ⟨cp,yk⟩:∃ c,Q0k p k=c:=⟨_,rfl⟩;obtain ⟨cq,Cw⟩:∃ c,s.hist.getD k []=c:=⟨_,rfl⟩;rw [yk,Cw] at N6;rw [yk] at e0;rw [Cw] at f0;have j5:=hid yk;have i9:=hid Cw;have Fx:=hid e0;have f9:=hid f0;obtain ⟨q,hq⟩:∃ d,decide (cp=cq)=d:=⟨_,rfl⟩;have HQ:=hid hq;rw [hq] at N6;have Vq:=(Ext.refl wr).drew;clear fw lj Dq Wk Xz yk Cw e0 f0 hq;obtain ⟨wq,rfl⟩:∃ Z,Z=wr:=⟨_,rfl⟩;go_wp2_with fail;refine Flow.Q1h [.p,.w,.p,.p,.p,.w,.p,.p,.p,.w,.w,.p] [0,1,2,3,4,5,6,7,8,9,10,11] [[],[0],[],[1,2],[3],[4],[],[],[6,7],[8],[5,9],[10]]
       [.c 0 (.pointer (some ⟨gs + 1,0,none⟩)),.c 1 (.slice (some ⟨b1,o1,none⟩) n cr),.c 2 (.int .i64 (k:Int)),.c 3 (.pointer (some ⟨b1,o1 + k * 2,none⟩)),.c 4 (.pointer (some ⟨b1,o1 + k * 2,none⟩)),.c 5 (.slice X cp.length Rq),.c 6 (.slice (some ⟨b2,o2,none⟩) n ch),.c 7 (.int .i64 (k:Int)),.c 8 (.pointer (some ⟨b2,o2 + k,none⟩)),.c 9 (.slice Y cq.length Jq),.c 10 (.bool q),.c 11 (.bool (!q))]
       (by kernel_rfl) rfl (by kernel_rfl) ⟨?g0,?g1,?g2,?g3,?g4,?g5,?g6,?g7,?g8,?g9,?g10,?g11,trivial⟩ ?post
      case g0 | g2 | g6 | g7=>
       intro v w1 hx;intro bb hbb;subst hbb;refine ⟨_,fun w=>?_,rfl⟩;go_simp
      case g1=>
       intro v w1 hx;(repeat intro (zq:v _=_));intro bb hbb;subst hbb;have n0:w1.cell? ⟨gs + 1,0,none⟩=some (.slice (some ⟨b1,o1,none⟩) n cr):=(C4.out.ext (Vq.trans hx)).cell 0;intro K hK;go_simp;exact hK _ _ (Ext.refl _) rfl
      case g3 | g4 | g8 | g11=>
       intro v w1 hx;(repeat intro (zq:v _=_));intro bb hbb;subst hbb;refine ⟨_,fun w=>?_,rfl⟩;go_simp
      case g5=>
       intro v w1 hx;(repeat intro (zq:v _=_));intro bb hbb;subst hbb;have n0:=(Vq.trans hx).cell Fx.out;intro K hK;go_simp;exact hK _ _ (Ext.refl _) rfl
      case g9=>
       intro v w1 hx;(repeat intro (zq:v _=_));intro bb hbb;subst hbb;have n0:=(Vq.trans hx).cell f9.out;intro K hK;go_simp;exact hK _ _ (Ext.refl _) rfl
      case g10=>
       intro v w1 hx;(repeat intro (zq:v _=_));intro bb hbb;subst hbb;intro K hK;go_simp;refine Q0d (N6.out w1 (Vq.trans hx)) ?_;rintro e w2 ⟨rfl,Mq⟩;exact ⟨_,rfl,hK _ _ Mq rfl⟩
      case post =>
       intro v w1 hx;(iterate 12 intro (zq:v _=_));simp only [Flow.All,Flow.acts,Act.put];go_simp;have Yx:=hid (Qg.out.trans (Vq.trans hx));clear hx Vq;(repeat clear zq);cases q with
       | false =>
         have hne:Q0q s.hist p=11:=J6w (by rw [HN.out,HH.out]) (by rw [HH.out]; exact Tq) (by rw [j5.out,i9.out]; exact of_decide_eq_false HQ.out)
         have HR:=hid hne;clear hne;go_wp2;go_ret;exact ⟨by rw [HR.out] <;> rfl,Lq.out.trans Yx.out⟩
       | true =>
         have Cj:Q0k p k=s.hist.getD k []:=by rw [j5.out,i9.out]; exact of_decide_eq_true HQ.out
         have az:=hid Cj;clear Cj;go_wp2;go_roundw
         case rel=>exact ⟨k + 1,by omega,by go_num,(fun j hj=>by
          rcases Nat.lt_or_ge j k with h | h
          . exact C2.out j h
          . have e:j=k:=by omega
            subst e; exact az.out),Yx.out⟩
         case measure=>simp [intOf]; omega
    . have Lj:¬ (k:Int) < n:=by omega
      have nj:k=n:=by omega
      have fz:Q0q s.hist p=0:=J7h (by rw [HN.out,HH.out]) (by rw [HH.out,<- nj]; exact fw)
      have HR:=hid fz;clear fw fz;go_wp2;go_ret;exact ⟨by rw [HR.out] <;> rfl,Dq⟩
 . have hI:((n:Int) != (H:Int))=true:=by simp; omega
   have HR:Hid (Q0q s.hist p=2):=hid (J4r (by rw [HN.out,HH.out]; exact iY))
   clear iY;go_wp2;go_ret;exact ⟨by rw [HR.out] <;> rfl,Lq.out⟩
theorem X7j (w:World) (v u:Value) (s:Q0b) (p:List Rul) (hv:Q0g w v s) (hu:Q0m w u p) :
    Calls prog 58 #[v,u] w fun e w'=>e=.returned (.int .i64 (Q1j s p)) /\ Ext w w':=by
 have HV:=hid hv;have HU:=hid hu;obtain ⟨a,b,rfl,-⟩:=hv;have ha:∃ A n c,a=.slice A n c:=by obtain ⟨_,_,e,h2⟩:=HV.out; cases e; obtain ⟨A,c,e,-⟩:=h2.ships.opened; exact ⟨A,_,c,e⟩
 have hb:∃ A n c,b=.slice A n c:=by obtain ⟨_,_,e,h2⟩:=HV.out; cases e; obtain ⟨A,c,e,-⟩:=h2.members.opened; exact ⟨A,_,c,e⟩
 obtain ⟨A1,n1,ca1,rfl⟩:=ha;obtain ⟨A2,n2,ca2,rfl⟩:=hb;obtain ⟨R,rfl,hr⟩:=hu;obtain ⟨AR,cr,rfl,-,-,-⟩:=hr.opened;obtain ⟨n,hn⟩:∃ n,p.length=n:=⟨_,rfl⟩;rw [hn] at HU ⊢;clear hr hn;go_enter func58,ntmps58;go_wp2_with fail;obtain ⟨W,Nq,k0,k1,Sq,eW⟩:=Q3p w 25 #[.int .i64 s.limit,.slice A1 n1 ca1,.slice A2 n2 ca2] 47 #[.slice AR n cr];rw [Nq];clear Nq;have jY:=hid (HV.out.ext Sq.out);have zo:=hid (HU.out.ext Sq.out);obtain ⟨gs,bq⟩:∃ x,w.heap.size=x:=⟨_,rfl⟩;rw [bq] at k0 k1 eW ⊢;have K0:=hid k0;have K1:=hid k1;have c0:=k0.cell 0;have c1:=k0.cell 1;have c2:=k0.cell 2;simp only [Go.Tw.gA,Go.Tw.gB,Go.Tw.gC] at c0 c1 c2;clear k0 k1 bq;go_wp2_with (go_at_call 16; refine (Q6s _ _ s jY.out).mono ?_; rintro e w2 ⟨rfl,Mq⟩; refine halted ?_);clear c0 c1 c2;have c0:=(K0.out.ext Mq).cell 0;have c1:=(K0.out.ext Mq).cell 1;have c2:=(K0.out.ext Mq).cell 2;have c3:=(K1.out.ext Mq).cell 0;simp only [Go.Tw.gA,Go.Tw.gB,Go.Tw.gC] at c0 c1 c2 c3;have Ox:=hid Mq;have Lq:=hid (Sq.out.trans Mq);clear Mq;unfold Q1o
 by_cases he:s.err=0
 . have HE:=hid he
   have HP:Hid (Q1j s p=Q0q s.hist p):=hid (by unfold Q1j; rw [if_neg (by simpa using he)])
   have hI:(s.err != 0)=false:=by simp [he]
   rw [he] at hI ⊢;go_wp2_with (go_at_call 28; refine (X0l _ _ _ s p (jY.out.ext Ox.out) (zo.out.ext Ox.out) HE.out).mono ?_; rintro e w3 ⟨rfl,Dj⟩);go_ret;exact ⟨by rw [HP.out] <;> rfl,Lq.out.trans Dj⟩
 . have HP:Hid (Q1j s p=s.err):=hid (by unfold Q1j; rw [if_pos he])
   obtain ⟨E,hE⟩:∃ E,s.err=E:=⟨_,rfl⟩;rw [hE] at he HP ⊢;have hI:(E != 0)=true:=by simp [he]
   go_wp2;go_ret;exact ⟨by rw [HP.out] <;> rfl,Lq.out⟩
def J6s (s:Q0b) (p:List Rul) (i:Int):Int:=Q0o s.members i.toNat * (countB (Q0l p (Q0c s.members i.toNat)) - X2n s i.toNat)
def Y2v (s:Q0b) (p:List Rul) (k:Nat):Int:=(((Q2k s p).take k).map (J6s s p)).sum
theorem Y4f (s:Q0b) (p:List Rul) {k:Nat} (hk:k < (Q2k s p).length):Y2v s p (k + 1)=Y2v s p k + J6s s p (ix (Q2k s p) k):=by
 unfold Y2v;rw [List.take_succ_eq_append_getElem hk,List.map_append,List.sum_append,Q5i hk]; simp
theorem J0n (s:Q0b) (p:List Rul):Y2v s p (Q2k s p).length=Z4f s p:=by unfold Y2v; rw [List.take_length]; rfl
def Y5l (s:Q0b) (p:List Rul):Int:=if Q1j s p=0 then Z4f s p else 0
theorem Z0o {s:Q0b} (i:Nat):0 <= X2n s i /\ X2n s i <= s.ships.length:=by
 unfold X2n;cases h:alone s i with
 | none=>simp
 | some b =>
   have h1:=countB_le b;have h2:=Q7n _ _ _ _ b h;simp only;omega
theorem J0x {s:Q0b} (hS:Q0w s) (p:List Rul) {i:Int} (hi:0 <= i /\ i < s.members.length):-6000 <= J6s s p i /\ J6s s p i <= 6000:=by
 have hw:=hS.weights i.toNat (by omega)
 have hc:=X4n hS (Q0l p (Q0c s.members i.toNat)) (by rw [Q3i,(hS.shaped i.toNat (by omega)).1]; exact Nat.le_refl _)
 have ha:=Z0o (s:=s) i.toNat;have h6:=hS.tides.2;unfold J6s;obtain ⟨d,hd⟩:∃ d,countB (Q0l p (Q0c s.members i.toNat)) - X2n s i.toNat=d:=⟨_,rfl⟩;rw [hd];have ir:-6 <= d /\ d <= 6:=by omega
 have h1:Q0o s.members i.toNat * (d + 6) <= 1000 * (d + 6):=Int.mul_le_mul_of_nonneg_right hw.2 (by omega)
 have h2:0 <= Q0o s.members i.toNat * (d + 6):=Int.mul_nonneg (by omega) (by omega)
 have h3:Q0o s.members i.toNat * (6 - d) <= 1000 * (6 - d):=Int.mul_le_mul_of_nonneg_right hw.2 (by omega)
 have h4:0 <= Q0o s.members i.toNat * (6 - d):=Int.mul_nonneg (by omega) (by omega)
 rw [Int.mul_add] at h1 h2;rw [Int.mul_sub] at h3 h4
 constructor
 . omega
 . omega
theorem Z5f {s:Q0b} (hS:Q0w s) (p:List Rul):∀ k,k <= (Q2k s p).length -> -6000 * (k:Int) <= Y2v s p k /\ Y2v s p k <= 6000 * k
 | 0,_=>by simp [Y2v]
 | k + 1,h=>by
   have ih:=Z5f hS p k (by omega)
   have hx:=X1s s p (ix (Q2k s p) k) (by rw [Q5i (show k < (Q2k s p).length by omega)]; exact List.getElem_mem _)
   have:=J0x hS p hx;rw [Y4f s p (by omega)]
   omega
theorem Q9l.bools {w:World} {x:Value} {o:Option (List Bool)} (h:Q9l w x o) (hl:∀ b,o=some b -> b.length <= 4096):Q1f w x (o.getD []):=by
 cases o with
 | none =>
   have h':x=.slice none 0 0:=h;subst h';exact X1e w
 | some b =>
   have:=hl b rfl;exact Q0n.bools h (show b.length <= 17592186043904 by omega)
theorem Z9q (s:Q0b) (i:Nat):X2n s i=countB ((alone s i).getD []):=by
 unfold X2n;cases alone s i <;> rfl
theorem Y5p {n:Int} (h1:-9223372036854775808 <= n) (h2:n <= 9223372036854775807):IntKind.i64.wrap n=n:=by
 rw [IntKind.wrap_i64]; omega
theorem Z4e (w:World) (v u:Value) (s:Q0b) (p:List Rul) (hv:Q0g w v s) (hu:Q0m w u p) (hs:Q3v s) (hp:p.length <= 1000) :
    Calls prog 65 #[v,u] w fun e w'=>e=.returned (.tuple #[.int .i64 (Y5l s p),.int .i64 (Q1j s p)]) /\ Ext w w':=by
 obtain ⟨a,b,rfl,h2⟩:=hv;obtain ⟨rv,rfl,hr⟩:=hu;obtain ⟨A,Uq,rfl,-,-,-⟩:=h2.ships.opened;obtain ⟨B,Wq,rfl,-,-,-⟩:=h2.members.opened;obtain ⟨R,Gq,rfl,-,-,-⟩:=hr.opened;have H2:=hid h2;have HR:=hid hr;have HS:=hid hs;clear h2 hr hs;go_enter func65,ntmps65;go_upto_region 1 with fail;change Code.wp _ _ _ _ ((w.alloc (.cells #[.int .i64 s.limit,.slice A s.ships.length Uq,.slice B s.members.length Wq] 34)).alloc (.cells #[.slice R p.length Gq] 38));obtain ⟨W,Nq,k0,k1,Sq,eW⟩:=Q3p w 34 #[.int .i64 s.limit,.slice A s.ships.length Uq,.slice B s.members.length Wq] 38 #[.slice R p.length Gq];rw [Nq];clear Nq;have K0:=hid k0;have K1:=hid k1;have Mz:Hid (∀ W',Ext W W' -> Q0g W' (.agg #[.int .i64 s.limit,.slice A s.ships.length Uq,.slice B s.members.length Wq]) s):=hid (fun W' hW=>⟨_,_,rfl,H2.out.ext (Sq.out.trans hW)⟩);have Zg:Hid (∀ W',Ext W W' -> Q0m W' (.agg #[.slice R p.length Gq]) p):=hid (fun W' hW=>⟨_,rfl,HR.out.ext (Sq.out.trans hW)⟩);have G2:=hid (X3o W _ _ s p (Mz.out W (Ext.refl _)) (Zg.out W (Ext.refl _)) HS.out hp);have c0:=(k0).cell 0;have c1:=(k0).cell 1;have c2:=(k0).cell 2;simp only [Go.Tw.gA,Go.Tw.gB,Go.Tw.gC] at c0 c1 c2;have d0:=(k1).cell 0;simp only [Go.Tw.gA,Go.Tw.gB] at d0;clear k0 k1
 by_cases he:Q1j s p=0
 . obtain ⟨qg,eh⟩:=Q5g he
   have HV:=hid qg;have yo:=hid eh;have C4:Hid (Q5c s p=Q2k s p):=hid (if_pos he);have HF:Hid (Y5l s p=Z4f s p):=hid (if_pos he);have Ex:=hid he;rw [C4.out,he] at G2;clear he qg eh;go_wp2_with (go_at_call 33; refine G2.out.mono ?_; rintro e w5 ⟨x,rfl,Z1,Cq⟩; replace c0:=Cq.cell c0; replace c1:=Cq.cell c1; replace c2:=Cq.cell c2; replace d0:=Cq.cell d0; refine halted ?_);obtain ⟨Xk,W8,rfl,-,-,F1⟩:=Z1.opened;have Ek:=hid F1;have U3:=kept_len s p;have Vd:=hid (Q6o w5 _ _ s p (Mz.out w5 Cq) (Zg.out w5 Cq) HV.out yo.out);have vq:=hid Cq;clear F1 Z1 Cq;unfold Q1o;go_wp2_with (go_at_call 109; refine Vd.out.mono ?_; rintro e w6 ⟨y,rfl,C6,Kj⟩; refine halted ?_);obtain ⟨U,Rg,rfl,-,-,rk⟩:=C6.opened;rw [Q4c] at rk ⊢;have dg:=hid rk;have Yx:=hid (vq.out.trans Kj);have Ud:=hid Kj;obtain ⟨L,hL⟩:∃ L,Q2k s p=L:=⟨_,rfl⟩;have U0:=hid hL;rw [hL] at U3 Ek ⊢;clear rk C6 Kj hL c0 c1 c2 d0;unfold Q1o;go_wp2
   go_loopw [8,27] (fun sv iv wr=>∃ (k:Nat) (m:Int),k <= L.length /\ iv=.int .i64 k /\ sv=.int .i64 m /\ m=Y2v s p k /\ Ext w6 wr) (fun _ iv _=>L.length - (intOf iv).toNat)
   case atStart=>exact ⟨0,0,Nat.zero_le _,rfl,rfl,by simp [Y2v],Ext.refl _⟩
   case round =>
    obtain ⟨k,m,hk,rfl,rfl,hm,Dq⟩:=hrel;have dQ:=hid hm;have rq:=hid Dq;clear hm
    by_cases Tq:k < L.length
    . obtain ⟨bk,ok,rfl,V9⟩:=Ek.out k Tq
      replace V9:=(Ud.out.trans Dq).cell V9;have Jk:0 <= ix L k /\ ix L k < s.members.length:=by
       have:=X1s s p;rw [U0.out] at this;exact this _ (by rw [Q5i Tq]; exact List.getElem_mem Tq)
      have Q3:=Y4f s p (k:=k) (by rw [U0.out]; exact Tq)
      have Pz:=Z5f HV.out p (k + 1) (by rw [U0.out]; exact Tq)
      have dw:=J0x HV.out p Jk;rw [U0.out] at Q3;obtain ⟨j,hj⟩:∃ j:Nat,ix L k=(j:Int):=⟨(ix L k).toNat,by omega⟩
      rw [hj] at V9 Jk Q3 dw;have Zj:j < s.members.length:=by omega
      obtain ⟨bm,off,Rq,Jq,Bq,X,Y,Z,aq⟩:=Q3s (H2.out.members.ext (Sq.out.trans (Yx.out.trans Dq))) Zj;have hA:=aq.addr;subst hA;have e0:=aq.e0;have e1:=aq.e1;have e2:=aq.e2;have e3:=aq.e3;have e4:=aq.e4;have Uz:=hid (fun W' hW=>aq.mem (W:=W') hW);obtain ⟨bu,ou,xk,rfl,-,Sk,qj⟩:=dg.out j Zj;rw [Q7j p Zj] at qj;have hT:=(HV.out.shaped j Zj).1;have h6:=HV.out.tides;have T3:=hid (fun (W:World) (u:Value) (hu:X3u W u (Q2a s j))=>Y3n W u (Q2a s j) s.limit s.ships.length hu hT (by omega) h6.1 (X5u HV.out Zj (Nat.le_refl _)))
      have kc:Hid ((Q2a s j).Q4y s.limit s.ships.length (2 ^ s.ships.length)=alone s j):=hid rfl;rw [kc.out] at T3;have S0:∀ b,alone s j=some b -> b.length <= 4096:=fun b hb=>by have:=Q7n _ _ _ _ b hb; omega
      have Td:=hid (Z9q s j);have Sd:=X4n HV.out (Q0l p (Q0c s.members j)) (by rw [Q3i,hT]; exact Nat.le_refl _)
      have EY:=Z0o (s:=s) j;have J6:J6s s p (j:Int)=Q0o s.members j * (countB (Q0l p (Q0c s.members j)) - X2n s j):=by unfold J6s; rw [Int.toNat_natCast]
      rw [J6] at Q3 dw;obtain ⟨o,ho⟩:∃ o,alone s j=o:=⟨_,rfl⟩;rw [ho] at T3 Td S0;have zx:=hid S0;obtain ⟨cl,hcl⟩:∃ x,Q0l p (Q0c s.members j)=x:=⟨_,rfl⟩;rw [hcl] at qj Sd Q3 dw;obtain ⟨cn,S4⟩:∃ x,countB cl=x:=⟨_,rfl⟩;rw [S4] at Sd Q3 dw;have uo:=hid S4;obtain ⟨an,FY⟩:∃ x,X2n s j=x:=⟨_,rfl⟩;rw [FY] at EY Q3 Td dw;obtain ⟨nm,vj⟩:∃ x,Q1t s.members j=x:=⟨_,rfl⟩;obtain ⟨wt,Vj⟩:∃ x,Q0o s.members j=x:=⟨_,rfl⟩;obtain ⟨lc,mj⟩:∃ x,(Q0c s.members j).length=x:=⟨_,rfl⟩;obtain ⟨lo,Lx⟩:∃ x,(Q0z s.members j).length=x:=⟨_,rfl⟩;obtain ⟨li,yx⟩:∃ x,(Q1g s.members j).length=x:=⟨_,rfl⟩;rw [vj] at e0 Uz;rw [Vj] at e1 Uz Q3 dw;rw [mj] at e2 Uz;rw [Lx] at e3 Uz;rw [yx] at e4 Uz;obtain ⟨Uk,fV,rfl,-,-,-⟩:=qj.opened;have m7:=hid Sk;have Ng:=hid qj;have YJ:IntKind.i64.wrap (cn - an)=cn - an:=Y5p (by omega) (by omega)
      obtain ⟨df,gY⟩:∃ x,cn - an=x:=⟨_,rfl⟩;rw [gY] at YJ Q3 dw;obtain ⟨pr,aX⟩:∃ x,wt * df=x:=⟨_,rfl⟩;rw [aX] at Q3 dw;have er:IntKind.i64.wrap pr=pr:=Y5p (by omega) (by omega)
      rw [<- dQ.out] at Q3;rw [Q3] at Pz;have b9:IntKind.i64.wrap (m + pr)=m + pr:=Y5p (by have:=U3; have:=HV.out.some.2; omega) (by have:=U3; have:=HV.out.some.2; omega)
      have R5:=hid Q3;have so:=hid gY;have uV:=hid aX;have Q7:(j:Int) < s.members.length:=by omega
      have Lj:(k:Int) < L.length:=by omega
      have Bm:k < 4096:=by have:=U3; have:=HV.out.some.2; omega
      have yq:=Ext.box wr (.cells #[.string nm,.int .i64 wt,.slice X lc Rq,.slice Y lo Jq,.slice Z li Bq] 69);have K3:=Blk.made wr 69 #[.string nm,.int .i64 wt,.slice X lc Rq,.slice Y lo Jq,.slice Z li Bq];have kk:=K0.out.ext (Yx.out.trans Dq);have c0:=(kk).cell 0;have c1:=(kk).cell 1;have c2:=(kk).cell 2;simp only [Go.Tw.gA,Go.Tw.gB,Go.Tw.gC] at c0 c1 c2;have zj:=hid yq;clear aq Jk hj Zj hT h6 S0 Sd EY J6 ho hcl S4 FY vj Vj mj Lx yx Sk qj gY aX Q3 Pz dw yq kk Dq
      go_light
      go_wp2;obtain ⟨W5,O9⟩:∃ X',wr.alloc (.cells #[.string nm,.int .i64 wt,.slice X lc Rq,.slice Y lo Jq,.slice Z li Bq] 69)=X':=⟨_,rfl⟩;obtain ⟨g,hg⟩:∃ x,wr.heap.size=x:=⟨_,rfl⟩;rw [O9] at zj K3 ⊢;rw [hg] at K3 ⊢;have KR:=hid K3;have Vq:=(Ext.refl W5).drew;clear O9 K3 e0 e1 e2 e3 e4 hg V9 c0 c1 c2;refine Flow.Q1h [.p,.p,.w,.p,.p,.p,.w,.w,.w,.p,.w,.w,.w,.p,.p,.p,.p] [0,1,2,3,4,5,6,7,8,9,10,11,12,13,14,15,16] [[],[],[1],[],[],[3,4],[5],[6],[],[],[9],[7,8,10],[11],[7,12],[2,13],[0,14],[0,1,2,3,4,5,6,7,8,9,10,11,12,13,14,15]]
       [.c 0 (.int .i64 m),.c 1 (.pointer (some ⟨g,1,none⟩)),.c 2 (.int .i64 wt),.c 3 (.slice (some ⟨bu,ou,none⟩) s.members.length Rg),.c 4 (.int .i64 (j:Int)),.c 5 (.pointer (some ⟨bu,ou + j,none⟩)),.c 6 (.slice Uk cl.length fV),.c 7 (.int .i64 cn),.c 8 (.agg #[.string nm,.int .i64 wt,.slice X lc Rq,.slice Y lo Jq,.slice Z li Bq]),.c 9 (.pointer (some ⟨w.heap.size,0,none⟩)),.c 10 (.int .i64 s.limit),⟨fun v wz=>(fun v w'=>Q9l w' (v 11) o) v wz,by intro v a b hx h; exact Q9l.ext h hx⟩,.c 12 (.int .i64 an),.c 13 (.int .i64 df),.c 14 (.int .i64 pr),.c 15 (.int .i64 (m + pr)),.c 16 (.int .i64 (m + pr))]
       (by kernel_rfl) rfl (by kernel_rfl) ⟨?g0,?g1,?g2,?g3,?g4,?g5,?g6,?g7,?g8,?g9,?g10,?g11,?g12,?g13,?g14,?g15,?g16,trivial⟩ ?post
      case g0 | g1 | g3 | g4 | g9=>
       intro v w1 hx;intro bb hbb;subst hbb;refine ⟨_,fun w=>?_,rfl⟩;go_simp
      case g2 | g6 | g10=>
       intro v w1 hx;(repeat intro (zq:v _=_));intro bb hbb;subst hbb;have n0:w1.cell? ⟨g,1,none⟩=some (.int .i64 wt):=(KR.out.ext (Vq.trans hx)).cell 1;have n1:w1.cell? ⟨bu,ou + j,none⟩=some (.slice Uk cl.length fV):=(rq.out.trans (zj.out.trans (Vq.trans hx))).cell m7.out;have n2:w1.cell? ⟨w.heap.size,0,none⟩=some (.int .i64 s.limit):=(K0.out.ext (Yx.out.trans (rq.out.trans (zj.out.trans (Vq.trans hx))))).cell 0;intro K hK;go_simp;exact hK _ _ (Ext.refl _) rfl
      case g5 | g15=>
       intro v w1 hx;(repeat intro (zq:v _=_));intro bb hbb;subst hbb;refine ⟨_,fun w=>?_,rfl⟩;go_simp
      case g7=>
       intro v w1 hx;(repeat intro (zq:v _=_));intro bb hbb;subst hbb;intro K hK;go_simp;refine Q0d (Q7d w1 _ cl (Ng.out.ext (rq.out.trans (zj.out.trans (Vq.trans hx))))) ?_;rw [uo.out];rintro e w2 ⟨rfl,Mq⟩;exact ⟨_,rfl,hK _ _ Mq rfl⟩
      case g8=>
       intro v w1 hx;intro bb hbb;intro K hK;have o1:bb.eval (.tmp 12)=.pointer (some ⟨g,0,none⟩):=fze10
       exact Q0i (.tmp 12) _ rfl Z8c Y3u o1 (KR.out.ext (Vq.trans hx)) rfl (hK _ _ (Ext.refl _) rfl)
      case g11=>
       intro v w1 hx;(repeat intro (zq:v _=_));intro bb hbb;subst hbb;intro K hK;go_simp;refine Q0d (T3.out w1 _ (Uz.out w1 (zj.out.trans (Vq.trans hx)))) ?_;rintro e w2 ⟨x,rfl,h1,Mq⟩;exact ⟨_,rfl,hK _ _ Mq h1⟩
      case g12=>
       intro v w1 hx (q11:(fun v w'=>Q9l w' (v 11) o) v w1);intro bb hbb;subst hbb;intro K hK;go_simp;refine Q0d (Q7d w1 _ (o.getD []) (Q9l.bools q11 zx.out)) ?_;rw [<- Td.out];rintro e w2 ⟨rfl,Mq⟩;exact ⟨_,rfl,hK _ _ Mq rfl⟩
      case g13=>
       intro v w1 hx;(repeat intro (zq:v _=_));intro bb hbb;subst hbb;have gY:=so.out;refine ⟨_,fun w=>?_,rfl⟩;go_simp
      case g14=>
       intro v w1 hx;(repeat intro (zq:v _=_));intro bb hbb;subst hbb;have aX:=uV.out;refine ⟨_,fun w=>?_,rfl⟩;go_simp
      case g16=>
       intro v w1 hx (q0:v 0=_) (q1:v 1=_) (q2:v 2=_) (q3:v 3=_) (q4:v 4=_) (q5:v 5=_) (q6:v 6=_) (q7:v 7=_) (q8:v 8=_) (q9:v 9=_) (q10:v 10=_) _ (q12:v 12=_) (q13:v 13=_) (q14:v 14=_) (q15:v 15=_);intro bb hbb;subst hbb;refine ⟨_,fun w=>?_,rfl⟩;go_simp
      case post =>
       intro v w1 hx;(iterate 11 intro (zq:v _=_));intro (q11:(fun v w'=>Q9l w' (v 11) o) v w1);(iterate 5 intro (zq:v _=_));simp only [Flow.All,Flow.acts,Act.put];go_simp;have aj:=hid (rq.out.trans (zj.out.trans (Vq.trans hx)));clear hx Vq q11;(repeat clear zq);go_wp2;go_roundw
       case rel=>exact ⟨k + 1,m + pr,by omega,by go_num,rfl,R5.out.symm,aj.out⟩
       case measure=>simp [intOf]; omega
    . have Cj:k=L.length:=by omega
      subst Cj;go_wp2;go_ret2;exact ⟨by rw [HF.out,Ex.out,<- J0n,U0.out,<- dQ.out]; rfl,Sq.out.trans (Yx.out.trans rq.out)⟩
 . have HF:Hid (Y5l s p=0):=hid (if_neg he)
   have hne:(Q1j s p != 0)=true:=by simp [he]
   obtain ⟨E,hE⟩:∃ E,Q1j s p=E:=⟨_,rfl⟩;have Ex:=hid hE;rw [hE] at hne G2;clear he hE;go_wp2_with (go_at_call 33; refine G2.out.mono ?_; rintro e w5 ⟨x,rfl,Z1,Cq⟩; have vq:=hid Cq; clear Z1);go_ret2;exact ⟨by rw [HF.out,Ex.out]; rfl,Sq.out.trans vq.out⟩
def J9a (w:World) (x:Value) (o:Option (List Bool)):Prop:=match o with
 | none=>x=.slice none 0 0
 | some b=>Q1f w x b
theorem J9a.ext {w w':World} {x:Value} {o:Option (List Bool)} (h:J9a w x o) (hx:Ext w w'):J9a w' x o:=by
 cases o with
 | none=>exact h
 | some b=>exact Q1f.ext h hx
theorem Y3o {s:Q0b} {l:List Int} (h:Q1z s l=0):(∀ x ∈ l,0 <= x /\ x < s.members.length) /\ l.length <= 8:=by
 obtain ⟨h1,h2⟩:=Y8u.1 h;refine ⟨fun x hx=>?_,h1⟩;obtain ⟨j,hj,rfl⟩:=List.getElem_of_mem hx;have:=(h2 j hj).1;rw [Q5i hj] at this;exact this
theorem Q9d {w:World} {o:Oper} {a:Act} (x:Operand) (k:Nat) (vw:o.op=.extract x k) {u r:Value} (h:a.eval x=u) (hr:∀ w,(Instr.extract u k).run prog w=.ok r w):(execOp a.eval o).run prog w=.ok (.value r) w:=by
 unfold execOp;simp only [vw,h,Sem.run_bind,hr,Result.andThen_ok,Sem.run_pure]
theorem Y7u {w:World} {o:Oper} {a:Act} (x:Operand) (vw:o.op=.move x) {u:Value} (h:a.eval x=u):(execOp a.eval o).run prog w=.ok (.value u) w:=by
 unfold execOp;simp only [vw,h,Sem.run_pure]
theorem X8y {w:World} {o:Oper} {a:Act} (x:Operand) (vw:o.op=.assign x) {u:Value} (h:a.eval x=u):(execOp a.eval o).run prog w=.ok (.value u) w:=by
 unfold execOp;simp only [vw,h,Sem.run_pure]
theorem J9j (w:World) (x y:Value):(Instr.extract (.tuple #[x,y]) 0).run prog w=.ok x w:=rfl
theorem K0f (w:World) (x y:Value):(Instr.extract (.tuple #[x,y]) 1).run prog w=.ok y w:=rfl
end Go.Proofs
namespace Go.Proofs
open Go.RowKit Go.Tw Go.Flow
theorem X1h {a b:Int} (h:a ≠ 0):Q0h [a,b]=a:=by unfold Q0h; rw [if_neg h]
theorem Q8v {a b:Int} (h:a=0):Q0h [a,b]=b:=by
 subst h;unfold Q0h;rw [if_pos rfl];unfold Q0h
 by_cases hb:b=0
 . rw [if_pos hb,hb]; rfl
 . rw [if_neg hb]
theorem K1d.rules {s:Q0b} {p:List Rul} {n:Nat} {w w':World} {x:Value} (hS:Q0w s) (hp:Q0q s.hist p=0) (h:K1d 115 w w' x (Z1n p n)):Q0m w' x (Z1n p n):=by
 have hf:=Q2p.1 (Z9c (n:=n) hp);refine h.is (by have:=J2q hS hp; rw [J4h]; omega) fun r hr=>?_
 have hm:r.classes ∈ s.hist:=by rw [<- hf]; exact List.mem_map_of_mem hr
 have:=Y1b hS _ hm;omega
end Go.Proofs
namespace Go.Proofs
open Go.RowKit Go.Tw Go.Flow Tryz
attribute [local go_sem] Oper.semAt_some
theorem J7x (w:World) (x:Int) (g:Nat) (v:Value) (l:List Int) (hc:w.cell? ⟨g,0,none⟩=some v) (hv:Q0e w v l) :
    Calls prog 139 #[.int .i64 x,.pointer (some ⟨g,0,none⟩)] w fun e w'=>e=.returned (.bool (!has l x)) /\ Ext w w':=by
 obtain ⟨X,c,rfl,-,-,-⟩:=hv.opened;have HV:=hid hv;obtain ⟨q,hq⟩:∃ z,has l x=z:=⟨_,rfl⟩;have HQ:=hid hq;rw [hq];obtain ⟨n,hn⟩:∃ z,l.length=z:=⟨_,rfl⟩;rw [hn] at hc HV;clear hv hq hn;go_enter func139,ntmps139;go_wp2_with fail;refine (Y6h _ _ l x HV.out).mono ?_;rintro e w' ⟨rfl,rfl⟩;rw [HQ.out];go_wp2;go_ret;exact ⟨rfl,Ext.refl _⟩
theorem J6y (s:Q0b) (need:Int) (p:List Rul) (l:List Int):Q8z s need p l=(if Q0h [s.err,Q0f need 0 8000]=0 then (if Q0h [Q0q s.hist p,Q1z s l]=0 then Q0u (Q8o s need p l) 22 else Q0h [Q0q s.hist p,Q1z s l]) else Q0h [s.err,Q0f need 0 8000]):=by
 unfold Q8z
 by_cases h0:s.err=0
 . rw [if_neg (fun h=>h h0),Q8v h0]
   unfold Q4s
   by_cases h1:Q0f need 0 8000=0
   . rw [if_pos h1]
     rw [show Q0h [Q0f need 0 8000,Q0q s.hist p,Q1z s l,if Q8o s need p l then 22 else 0]=Q0h [Q0q s.hist p,Q1z s l,if Q8o s need p l then 22 else 0] from by rw [Q0h,if_pos h1]]
     by_cases h2:Q0q s.hist p=0
     . rw [show Q0h [Q0q s.hist p,Q1z s l,if Q8o s need p l then 22 else 0]=Q0h [Q1z s l,if Q8o s need p l then 22 else 0] from by rw [Q0h,if_pos h2],Q8v h2]
       by_cases h3:Q1z s l=0
       . rw [Q8v h3,if_pos h3]; rfl
       . rw [X1h h3,if_neg h3]
     . rw [show Q0h [Q0q s.hist p,Q1z s l,if Q8o s need p l then 22 else 0]=Q0q s.hist p from by rw [Q0h,if_neg h2],X1h h2,if_neg h2]
   . rw [if_neg h1,show Q0h [Q0f need 0 8000,Q0q s.hist p,Q1z s l,if Q8o s need p l then 22 else 0]=Q0f need 0 8000 from by rw [Q0h,if_neg h1]]
 . rw [if_pos h0,X1h h0,if_neg h0]
theorem Q6h {w:World} {g:Nat} {T:TypeId} {a b:Value} (h:Blk w g T #[a,b]):Part w g 0 #[a]:=fun k hk=>by
 have:k=0:=by have:k < 1:=hk; omega
 subst this;exact h.cell 0
theorem Tryz.K0x (w:World):(sizeOf 22).run prog w=.ok 1 w:=by kernel_rfl
theorem Y2x (w:World) (v rv lv:Value) (s:Q0b) (need:Int) (p:List Rul) (l:List Int) (hv:Q0g w v s) (hr:Q1d w rv p) (hl:Q0e w lv l) (hs:Q3v s) (hp:p.length <= 1000) :
    Calls prog 76 #[v,.int .i64 need,.agg #[rv,lv]] w fun e w'=>e=.returned (.int .i64 (Q8z s need p l)) /\ Ext w w':=by
 obtain ⟨a,b,rfl,h2⟩:=hv;obtain ⟨A,Uq,rfl,-,-,-⟩:=h2.ships.opened;obtain ⟨B,Wq,rfl,-,-,-⟩:=h2.members.opened;obtain ⟨R,Gq,rfl,-,-,-⟩:=hr.opened;obtain ⟨L,ej,rfl,-,-,-⟩:=hl.opened;have H2:=hid h2;have HR:=hid hr;have HL:=hid hl;have HS:=hid hs;have Gk:=hid hp;have qz:=hid (J6y s need p l);obtain ⟨CE,SQ⟩:∃ z,Q8z s need p l=z:=⟨_,rfl⟩;rw [SQ] at qz ⊢;obtain ⟨N,hN⟩:∃ z,p.length=z:=⟨_,rfl⟩;obtain ⟨NL,qv⟩:∃ z,l.length=z:=⟨_,rfl⟩;have HN:=hid hN;have D7:=hid qv;rw [hN] at HR ⊢;rw [qv] at HL ⊢;obtain ⟨e0,M5⟩:∃ z,s.err=z:=⟨_,rfl⟩;obtain ⟨r0,fz⟩:∃ z,Q0f need 0 8000=z:=⟨_,rfl⟩;obtain ⟨E1,P3⟩:∃ z,Q0h [e0,r0]=z:=⟨_,rfl⟩;have Fx:=hid M5;have M6:=hid fz;have Vk:=hid P3;rw [M5,fz,P3] at qz;clear h2 hr hl hs hp SQ hN qv M5 fz P3;go_enter func76,ntmps76;go_wp2_with fail;change Calls _ _ _ ((w.alloc (.cells #[.int .i64 s.limit,.slice A s.ships.length Uq,.slice B s.members.length Wq] 34)).alloc (.cells #[.slice R N Gq,.slice L NL ej] 124)) _;obtain ⟨W,Nq,k0,k1,Sq,eW⟩:=Q3p w 34 #[.int .i64 s.limit,.slice A s.ships.length Uq,.slice B s.members.length Wq] 124 #[.slice R N Gq,.slice L NL ej];rw [Nq];clear Nq;obtain ⟨gs,bq⟩:∃ x,w.heap.size=x:=⟨_,rfl⟩;have Nz:=hid bq;rw [bq] at k0 k1 eW ⊢;have K0:=hid k0;have K1:=hid k1;clear k0 k1 bq;have Mz:Hid (∀ W',Ext W W' -> Q0g W' (.agg #[.int .i64 s.limit,.slice A s.ships.length Uq,.slice B s.members.length Wq]) s):=hid (fun W' hW=>⟨_,_,rfl,H2.out.ext (Sq.out.trans hW)⟩);have Zg:Hid (∀ W',Ext W W' -> Q0m W' (.agg #[.slice R N Gq]) p):=hid (fun W' hW=>⟨_,rfl,HR.out.ext (Sq.out.trans hW)⟩);have Rd:Hid (∀ W',Ext W W' -> Q0e W' (.slice L NL ej) l):=hid (fun W' hW=>HL.out.ext (Sq.out.trans hW));refine (Q1x _ _ s (Mz.out _ (Ext.refl _)) HS.out).mono ?_;rintro e w5 ⟨rfl,Cq⟩;rw [Fx.out];have vq:=hid Cq;clear Cq;go_wp2_with fail;refine (Q7c _ need).mono ?_;rintro e w6 ⟨rfl,rfl⟩;rw [M6.out];go_wp2_with fail;refine (first_any _ _ [e0,r0] (Q1v (by simp))).mono ?_
 rw [Vk.out];rintro e w7 ⟨rfl,rfl⟩;have pz:=hid (vq.out.trans (Ext.box w5 (.cells (List.map (Value.int .i64) [e0,r0]).toArray 29)));obtain ⟨w7,eV⟩:∃ Z,w5.alloc (.cells (List.map (Value.int .i64) [e0,r0]).toArray 29)=Z:=⟨_,rfl⟩;rw [eV] at pz ⊢;clear eV
 by_cases hz:E1=0
 . obtain ⟨mq,iq⟩:=Q1n (Vk.out.trans hz)
   have HV:=hid (Q0w.of (Fx.out.trans mq));have hne:(E1 != 0)=false:=by simp [hz]
   rw [if_pos hz] at qz;obtain ⟨a1,vg⟩:∃ z,Q0q s.hist p=z:=⟨_,rfl⟩;obtain ⟨a2,y7⟩:∃ z,Q1z s l=z:=⟨_,rfl⟩;obtain ⟨E2,F9⟩:∃ z,Q0h [a1,a2]=z:=⟨_,rfl⟩;have O6:=hid vg;have sJ:=hid y7;have Zw:=hid F9;rw [vg,y7,F9] at qz;clear hz mq iq vg y7 F9;have Vq:=(Ext.refl w7).drew;go_wp2_with fail;refine Flow.Q1h [.w,.p,.w,.w,.w,.p,.w,.w,.w,.w,.p] [0,1,2,3,4,5,6,7,8,9,10] [[],[],[1],[0,2],[],[],[5],[3,4,6],[3,7],[7,8],[0,1,2,3,4,5,6,7,8,9]]
    [.c 0 (.agg #[.int .i64 s.limit,.slice A s.ships.length Uq,.slice B s.members.length Wq]),.c 1 (.pointer (some ⟨gs + 1,0,none⟩)),.c 2 (.agg #[.slice R N Gq]),.c 3 (.int .i64 a1),.c 4 (.agg #[.int .i64 s.limit,.slice A s.ships.length Uq,.slice B s.members.length Wq]),.c 5 (.pointer (some ⟨gs + 1,1,none⟩)),.c 6 (.slice L NL ej),.c 7 (.int .i64 a2),⟨fun v wz=>(fun v w'=>Q0e w' (v 8) [a1,a2]) v wz,by intro v a b hx h; exact Q0e.ext h hx⟩,.c 9 (.int .i64 E2),.c 10 (.int .i64 E2)]
    (by kernel_rfl) rfl (by kernel_rfl) ⟨?g0,?g1,?g2,?g3,?g4,?g5,?g6,?g7,?g8,?g9,?g10,trivial⟩ ?post
   case g0 | g4=>
    intro v w1 hx;intro bb hbb;intro K hK;have o1:bb.eval (.tmp 3)=.pointer (some ⟨gs,0,none⟩):=fze10
    exact Q0i (.tmp 3) _ rfl X8b Q9q o1 (K0.out.ext (pz.out.trans (Vq.trans hx))) rfl (hK _ _ (Ext.refl _) rfl)
   case g1 | g5=>
    intro v w1 hx;intro bb hbb;subst hbb;refine ⟨_,fun w=>?_,rfl⟩;go_simp
   case g2=>
    intro v w1 hx;(repeat intro (zq:v _=_));intro bb hbb;intro K hK;have o1:bb.eval (.tmp 21)=.pointer (some ⟨gs + 1,0,none⟩):=by rw [hbb]; dsimp only; (try simp (discharger:=decide) only [eval_put_ne]); rw [Q0a (by simp only [size_put]; exact (by decide:21 < 53))]; assumption
    exact Q1m (.tmp 21) _ rfl Q6t Q4b o1 (Q6h (K1.out.ext (pz.out.trans (Vq.trans hx)))) rfl (hK _ _ (Ext.refl _) rfl)
   case g3=>
    intro v w1 hx;(repeat intro (zq:v _=_));intro bb hbb;subst hbb;intro K2 jq;go_simp;refine Q0d (X2b w1 _ _ s p (Mz.out w1 (pz.out.trans (Vq.trans hx))) (Zg.out w1 (pz.out.trans (Vq.trans hx))) HV.out Gk.out) ?_;rintro e w2 ⟨rfl,Mq⟩;exact ⟨_,rfl,jq _ _ Mq (congrArg (Value.int .i64) O6.out)⟩
   case g6=>
    intro v w1 hx;(repeat intro (zq:v _=_));intro bb hbb;subst hbb;have n0:w1.cell? ⟨gs + 1,1,none⟩=some (.slice L NL ej):=(K1.out.ext (pz.out.trans (Vq.trans hx))).cell 1;intro K hK;go_simp;exact hK _ _ (Ext.refl _) rfl
   case g7=>
    intro v w1 hx;(repeat intro (zq:v _=_));intro bb hbb;subst hbb;intro K2 jq;go_simp;refine Q0d (X7g w1 _ _ s l (Mz.out w1 (pz.out.trans (Vq.trans hx))) (Rd.out w1 (pz.out.trans (Vq.trans hx)))) ?_;rintro e w2 ⟨rfl,Mq⟩;exact ⟨_,rfl,jq _ _ Mq (congrArg (Value.int .i64) sJ.out)⟩
   case g8=>
    intro v w1 hx;(repeat intro (zq:v _=_));intro bb hbb;subst hbb;intro K hK;go_simp;exact hK _ _ (Ext.box _ _) (Q1v (l:=[a1,a2]) (by simp))
   case g9=>
    intro v w1 hx (q7:v 7=_) (q8:(fun v w'=>Q0e w' (v 8) [a1,a2]) v w1);intro bb hbb;subst hbb;intro K2 jq;go_simp;refine Q0d (first_any w1 _ [a1,a2] q8) ?_;rintro e w2 ⟨rfl,rfl⟩;exact ⟨_,rfl,jq _ _ (Ext.refl _) (congrArg (Value.int .i64) Zw.out)⟩
   case g10=>
    intro v w1 hx (q0:v 0=_) (q1:v 1=_) (q2:v 2=_) (q3:v 3=_) (q4:v 4=_) (q5:v 5=_) (q6:v 6=_) (q7:v 7=_) _ (q9:v 9=_);intro bb hbb;subst hbb;refine ⟨_,fun w=>?_,rfl⟩;go_simp
   case post =>
    intro v w1 hx (q0:v 0=_) (q1:v 1=_) (q2:v 2=_) (q3:v 3=_) (q4:v 4=_) (q5:v 5=_) (q6:v 6=_);(iterate 1 intro (zq:v _=_));intro (q8:(fun v w'=>Q0e w' (v 8) [a1,a2]) v w1);(iterate 2 intro (zq:v _=_));simp only [Flow.All,Flow.acts,Act.put];go_simp;have Zv:=hid (pz.out.trans (Vq.trans hx));obtain ⟨w8,rfl⟩:∃ Z,Z=w1:=⟨_,rfl⟩;clear hx Vq q0 q1 q2 q3 q4 q5 q6 q8;(repeat clear zq)
    by_cases hz:E2=0
    . obtain ⟨mq,iq⟩:=Q1n (Zw.out.trans hz)
      have Vv:=hid (O6.out.trans mq);have fk:=Y3o (sJ.out.trans iq);have E8:=hid fk.1;have Uz:=hid fk.2;have Qd:(E2 != 0)=false:=by simp [hz]
      rw [if_pos hz] at qz;clear hz mq iq fk;have Vq:=(Ext.refl w8).drew;go_wp2_with fail;refine Flow.Q4h [.w,.w,.p,.w,.w,.w,.w,.last] [0,1,2,3,4,5,6,7] [[],[],[],[2],[1,2,3],[0,1,2,3,4],[],[0,1,2,3,4,5,6]] [7]
       [.c 0 (.agg #[.int .i64 s.limit,.slice A s.ships.length Uq,.slice B s.members.length Wq]),.c 1 (.agg #[.int .i64 s.limit,.slice A s.ships.length Uq,.slice B s.members.length Wq]),.c 2 (.pointer (some ⟨gs + 1,0,none⟩)),.c 3 (.agg #[.slice R N Gq]),⟨fun v wz=>(fun v w'=>Q3l w' (v 4) (Q3d s p)) v wz,by intro v a b hx h; exact Q3l.ext h hx⟩,⟨fun v wz=>(fun v w'=>Q0e w' (v 5) (Q2k s p)) v wz,by intro v a b hx h; exact Q0e.ext h hx⟩,⟨fun v wz=>(fun v w'=>∃ g,v 6=.pointer (some ⟨g,0,none⟩) /\ Blk w' g 22 #[.slice none 0 0] /\ w8.heap.size <= g) v wz,by rintro v a b hx ⟨g,h1,h2,h3⟩; exact ⟨g,h1,h2.ext hx,h3⟩⟩,.none]
       [fun v w1 w'=>∃ g X c,v 6=.pointer (some ⟨g,0,none⟩) /\ w'.cell? ⟨g,0,none⟩=some (.slice X (Q2k s p).length c) /\ Q0e w' (.slice X (Q2k s p).length c) (Q2k s p) /\ Ext w8 w'] (by kernel_rfl) rfl (by kernel_rfl) ⟨?g0,?g1,?g2,?g3,?g4,?g5,?g6,?g7,trivial⟩ ?post
      case g0 | g1=>
       intro v w1 hx;intro bb hbb;intro K hK;have o1:bb.eval (.tmp 3)=.pointer (some ⟨gs,0,none⟩):=fze10
       exact Q0i (.tmp 3) _ rfl X8b Q9q o1 (K0.out.ext (Zv.out.trans (Vq.trans hx))) rfl (hK _ _ (Ext.refl _) rfl)
      case g2=>
       intro v w1 hx;intro bb hbb;subst hbb;refine ⟨_,fun w=>?_,rfl⟩;go_simp
      case g3=>
       intro v w1 hx;(repeat intro (zq:v _=_));intro bb hbb;intro K hK;have o1:bb.eval (.tmp 35)=.pointer (some ⟨gs + 1,0,none⟩):=by rw [hbb]; dsimp only; (try simp (discharger:=decide) only [eval_put_ne]); rw [Q0a (by simp only [size_put]; exact (by decide:35 < 53))]; assumption
       exact Q1m (.tmp 35) _ rfl Q6t Q4b o1 (Q6h (K1.out.ext (Zv.out.trans (Vq.trans hx)))) rfl (hK _ _ (Ext.refl _) rfl)
      case g4=>
       intro v w1 hx;(repeat intro (zq:v _=_));intro bb hbb;subst hbb;intro K2 jq;go_simp;refine Q0d (Q6o w1 _ _ s p (Mz.out w1 (Zv.out.trans (Vq.trans hx))) (Zg.out w1 (Zv.out.trans (Vq.trans hx))) HV.out Vv.out) ?_;rintro e w2 ⟨u,rfl,hu,Mq⟩;exact ⟨_,rfl,jq _ _ Mq hu⟩
      case g5=>
       intro v w1 hx (q0:v 0=_) (q1:v 1=_) (q2:v 2=_) (q3:v 3=_) (q4:(fun v w'=>Q3l w' (v 4) (Q3d s p)) v w1);intro bb hbb;subst hbb;intro K2 jq;go_simp;refine Q0d (Z5q w1 _ _ s p (Mz.out w1 (Zv.out.trans (Vq.trans hx))) q4 HV.out) ?_;rintro e w2 ⟨u,rfl,hu,Mq⟩;exact ⟨_,rfl,jq _ _ Mq hu⟩
      case g6=>
       intro v w1 hx;intro bb hbb;subst hbb;intro K hK;go_simp;exact hK _ _ (Ext.box _ _) ⟨_,rfl,Blk.made _ _ _,(Vq.trans hx).size⟩
      case g7=>
       intro v w1 hx (q0:v 0=_) (q1:v 1=_) (q2:v 2=_) (q3:v 3=_) _ (q5:(fun v w'=>Q0e w' (v 5) (Q2k s p)) v w1) (q6:(fun v w'=>∃ g,v 6=.pointer (some ⟨g,0,none⟩) /\ Blk w' g 22 #[.slice none 0 0] /\ w8.heap.size <= g) v w1);intro wl hT;obtain rfl:wl=w1:=hT;intro bb hbb;intro K hK;obtain ⟨g,e6,h6,qo⟩:=q6;obtain ⟨X,c,h5,-,-,-⟩:=q5.opened;have o1:bb.eval (.tmp 9)=.pointer (some ⟨g,0,none⟩):=by rw [hbb]; dsimp only; (try simp (discharger:=decide) only [eval_put_ne]); rw [Q0a (by simp only [size_put]; exact (by decide:9 < 53))]; exact e6
       have o2:bb.eval (.tmp 38)=.slice X (Q2k s p).length c:=by rw [hbb]; dsimp only; (try simp (discharger:=decide) only [eval_put_ne]); rw [Q0a (by simp only [size_put]; exact (by decide:38 < 53))]; exact h5
       have dh:=q5;rw [h5] at dh;exact Q3z _ _ rfl K0x (g:=g) (k:=0) o1 o2 rfl rfl h6 (by show 0 < 1; omega) (fun v'=>hK _ _ ⟨g,X,c,e6,(h6.set 0 _).cell 0,Y1a dh h6 (fun k _ hk=>Below.heap_setCell _ _ _ _ hk),Below.setCell (Vq.trans hx) (show w8.heap.size <= g from qo) _⟩)
      case post =>
       intro v w1 hx;(iterate 4 intro (zq:v _=_));intro (q4:(fun v w'=>Q3l w' (v 4) (Q3d s p)) v w1) (q5:(fun v w'=>Q0e w' (v 5) (Q2k s p)) v w1) (q6:(fun v w'=>∃ g,v 6=.pointer (some ⟨g,0,none⟩) /\ Blk w' g 22 #[.slice none 0 0] /\ w8.heap.size <= g) v w1);intro w2 hE;replace hE:(fun v w1 w'=>∃ g X c,v 6=.pointer (some ⟨g,0,none⟩) /\ w'.cell? ⟨g,0,none⟩=some (.slice X (Q2k s p).length c) /\ Q0e w' (.slice X (Q2k s p).length c) (Q2k s p) /\ Ext w8 w') v w1 w2:=hE;simp only [Flow.acts,Act.put];go_simp;obtain ⟨gk,Xk,ck,e6,F1,hik,Qy⟩:=hE;obtain ⟨nk,U2⟩:∃ z,(Q2k s p).length=z:=⟨_,rfl⟩;rw [U2] at F1 hik
       (try rw [e6])
       obtain ⟨w9,rfl⟩:∃ Z,Z=w2:=⟨_,rfl⟩;have ij:=hid (Zv.out.trans Qy);have Ek:=hid F1;have Ua:=hid hik;have jg:Hid (∀ (W:World) (x:Int),Ext w9 W -> x ∈ l -> Calls prog 139 #[.int .i64 x,.pointer (some ⟨gk,0,none⟩)] W fun e W'=>e=.returned (.bool (!has (Q2k s p) x)) /\ Ext W W'):=hid (fun W x hW _=>J7x W x gk _ _ (hW.cell Ek.out) (Ua.out.ext hW));have L2:Hid (Q8o s need p l=(l.any (fun x=>!has (Q2k s p) x) || decide (Q1u s l < need))):=hid rfl
       obtain ⟨lost,p6⟩:∃ z,(l.any fun x=>!has (Q2k s p) x)=z:=⟨_,rfl⟩
       have N0:=hid p6;rw [p6] at L2;obtain ⟨wt,Vj⟩:∃ z,Q1u s l=z:=⟨_,rfl⟩;have QV:=hid Vj;rw [Vj] at L2;have d1:=(K1.out.ext ij.out).cell 1;simp only [Go.Tw.gA,Go.Tw.gB,Go.Tw.gC] at d1;clear hx Vq Qy F1 hik e6 U2 p6 Vj q4 q5 q6;(repeat clear zq);go_wp2_with fail;refine (X2k _ _ l 139 _ _ (Rd.out _ ij.out) (enters_of func139 (by kernel_rfl) rfl) jg.out).mono ?_
       rintro e wa ⟨rfl,hxa⟩;rw [N0.out];have Lq:=hid (ij.out.trans hxa);clear hxa d1;cases lost with
       | true =>
         have HF:Hid (Q0u true 22=CE):=hid (by rw [qz.out,L2.out]; rfl)
         go_wp2_with fail;refine (Q2s _ true 22).mono ?_;rintro e wb ⟨rfl,rfl⟩;rw [HF.out];go_wp2;go_ret;exact ⟨rfl,Sq.out.trans Lq.out⟩
       | false =>
         have c0:=(K0.out.ext Lq.out).cell 0;have c1:=(K0.out.ext Lq.out).cell 1;have c2:=(K0.out.ext Lq.out).cell 2;have d1:=(K1.out.ext Lq.out).cell 1;simp only [Go.Tw.gA,Go.Tw.gB,Go.Tw.gC] at c0 c1 c2 d1;go_wp2_with fail;refine (X6c _ _ _ s l (Mz.out _ Lq.out) (Rd.out _ Lq.out) HV.out E8.out (by have:=Uz.out; omega)).mono ?_
         rintro e wb ⟨rfl,hxb⟩;rw [QV.out];have zj:=hid (Lq.out.trans hxb);clear c0 c1 c2 d1 hxb
         by_cases hn:wt < need
         . have Pv:decide (wt < need)=true:=decide_eq_true hn
           have HF:Hid (Q0u true 22=CE):=hid (by rw [qz.out,L2.out,Pv]; rfl)
           go_wp2_with fail;refine (Q2s _ true 22).mono ?_;rintro e wc ⟨rfl,rfl⟩;rw [HF.out];go_wp2;go_ret;exact ⟨rfl,Sq.out.trans zj.out⟩
         . have Pv:decide (wt < need)=false:=decide_eq_false hn
           have HF:Hid (Q0u false 22=CE):=hid (by rw [qz.out,L2.out,Pv]; rfl)
           go_wp2_with fail;refine (Q2s _ false 22).mono ?_;rintro e wc ⟨rfl,rfl⟩;rw [HF.out];go_wp2;go_ret;exact ⟨rfl,Sq.out.trans zj.out⟩
    . have Qd:(E2 != 0)=true:=by simp [hz]
      rw [if_neg hz] at qz;clear hz;go_wp2;go_ret;exact ⟨by rw [qz.out] <;> rfl,Sq.out.trans Zv.out⟩
 . have hne:(E1 != 0)=true:=by simp [hz]
   rw [if_neg hz] at qz;clear hz;go_wp2;go_ret;exact ⟨by rw [qz.out] <;> rfl,Sq.out.trans pz.out⟩
theorem Tryz.J6l:(prog.info? 64).map (fun i=>(i.zero,i.size,i.bytes))=some (some (.agg #[.slice none 0 0,.int .i64 0]),2,32):=by kernel_rfl
theorem Tryz.K0d (w:World):(sizeOf 64).run prog w=.ok 2 w:=by kernel_rfl
theorem Tryz.J7l (w:World):(sizeOf 69).run prog w=.ok 5 w:=by kernel_rfl
theorem Y8g {P:Program} {ops:Array Oper} {Q:Exit -> Act -> World -> Prop} {rest:List Oper} {a:Act} {w:World} {T ty:TypeId} {p x:Operand} {pos} {after} (h:wpList P ops Q (⟨none,.store T p x,ty,pos,after,none⟩ :: rest) a w):wpList P ops Q (⟨none,.store T p x,ty,pos,after,none⟩ :: rest) a w:=h
theorem J3l {a:ByteArray} {b:Int} {X Y Z:Option Addr} {l m n c d e:Nat}:∀ u ∈ (#[Value.string a,.int .i64 b,.slice X l c,.slice Y m d,.slice Z n e]:Array Value).toList,u.oneCell'=true:=by
 intro u hu;simp only [List.mem_cons,List.not_mem_nil,or_false] at hu
 rcases hu with rfl | rfl | rfl | rfl | rfl <;> rfl
theorem Z0z {w w':World} {base n size B:Nat} {e:TypeId} {v:Value} {xs:List Value} {o:Obj} (Yq:w.ownsRow base e size v n xs) (hg:(w.alloc o).grownBy w' v.ownBlock) (hb:B <= base) (hB:B <= w.heap.size):Below B w w' :=
 Below.grown ((Below.refl B w).alloc hB o) hg (by simp; omega) (fun k hk=>Nat.le_trans hb (Yq.lt k hk).1)
theorem J6v {s:Q0b} {k n:Nat} (hn:s.members.length=n) (hk:k < n):∃ h0 tl,X1y s k=h0 :: tl /\ Z1w (Q8h s) k=(h0 == k):=by
 have hm:k ∈ X1y s k:=List.mem_filter.2 ⟨List.mem_range.2 (by omega),by simp⟩
 obtain ⟨h0,tl,he⟩:∃ h0 tl,X1y s k=h0 :: tl:=by
  cases h:X1y s k with
  | nil=>rw [h] at hm; cases hm
  | cons a b=>exact ⟨a,b,rfl⟩
 refine ⟨h0,tl,he,?_⟩;have h:=Y4t (f:=Q8h s) (k:=s.members.length) (i:=k) (by omega)
 rw [<- X5r,he] at h;rw [<- h]; rfl
theorem J3i {X:Option Addr} {l c:Nat} {i:Int}:∀ u ∈ (#[Value.slice X l c,.int .i64 i]:Array Value).toList,u.oneCell'=true:=by
 intro u hu;simp only [List.mem_cons,List.not_mem_nil,or_false] at hu
 rcases hu with rfl | rfl <;> rfl
theorem GrR.grown {w w':World} {base n size:Nat} {e:TypeId} {cv:Value} {xs:List Value} {gl:List (Value × Grp)} (h:GrR w gl) (Yq:w.ownsRow base e size cv n xs) (he:e ≠ 3) (hg:w.grownBy w' cv.ownBlock):GrR w' gl:=fun q hq=>Q4l (h q hq) Yq he hg
theorem Z8a {w w':World} {g:Nat} {T:TypeId} {cs:Array Value} {row:Option Nat} {o:Obj} (hb:Blk w g T cs) (hne:∀ b,row=some b -> b ≠ g) (hg:(w.alloc o).grownBy w' row):Blk w' g T cs:=by
 have hl:=hb.lt;have h1:=hg.block g (by simp; omega) (by intro e; exact hne g (by first | exact e | exact e.symm) rfl)
 unfold Blk at hb ⊢;rw [h1,Below.heap_alloc w o g hl]; exact hb
theorem _root_.Go.Flow.Turns.K2m {α:Type} {B b k:Nat} {A A':World} (h:Turns B A A') {T:TypeId} {enc:α -> List Value} {v:Value} {l:List α} (ho:Q1b A b T k enc v l):Q1b A' b T k enc v l:=by
 obtain ⟨h1,h2⟩:=ho;refine ⟨h1,?_⟩
 rcases h2 with h2 | ⟨g,Qq,cur,hv,Qx,Qj,r⟩
 . exact .inl h2
 . exact .inr ⟨g,Qq,cur,hv,Qx,h.cells Qj rfl,r⟩
theorem Z2s (s:Q0b):(Q1k s).length <= s.members.length:=by
 rw [X1g,List.length_map]; exact Q8k _ _
theorem Z1g (s:Q0b):∀ g ∈ Q1k s,g.members.length <= s.members.length:=by
 intro g hg;rw [X1g] at hg;obtain ⟨i,_,rfl⟩:=List.mem_map.1 hg;show ((Q4j _ _ _).map _).length <= _;rw [List.length_map];have h1:(Q4j (Q8h s) s.members.length i).length <= (List.range s.members.length).length:=List.length_filter_le ..;rw [List.length_range] at h1; exact h1
theorem Z0w {w:World} {B:Nat} {v:Value} {gl:List (Value × Grp)} (h:Q1b w B 64 2 Q5m v gl) (hr:GrR w gl) (hl:gl.length <= 1000) (hm:∀ q ∈ gl,q.2.members.length <= 1000):Q1q w v (gl.map (·.2)):=by
 refine h.rowsOf (by simp) (by simp; omega) Q4m (fun j h1 h2=>?_) (fun c c' x hc h=>?_)
 . have hq:=List.getElem_mem h1
   simp only [List.getElem_map];exact ⟨(hr _ hq).ints (by have:=hm _ hq; omega),rfl⟩
 . exact ⟨by rw [<- hc 0 (by omega)]; exact h.1,by rw [<- hc 1 (by omega)]; exact h.2⟩
structure K1l (s:Q0b) (w0:World) (k:Nat) (vo vs:Value) (Ds:List Nat) (W:World):Prop where
 le:k <= s.members.length
 own:∃ gl:List (Value × Grp),Q1b W w0.heap.size 64 2 Q5m vo gl /\ gl.map (·.2)=Q6n s k /\ GrR W gl
 sum:vs=.int .i64 ((Q6n s k).map Grp.weight).sum
 marked:Marked W Ds
 low:∀ D,D ∈ Ds -> w0.heap.size <= D
 ext:Ext w0 W
theorem Y1r (w:World) (v:Value) (s:Q0b) (hv:Q0g w v s) (qg:Q0w s) :
    Calls prog 110 #[v] w fun e w'=>∃ x,e=.returned (.tuple #[x,.int .i64 (Q4u s)]) /\ Q1q w' x (Q1k s) /\ Ext w w':=by
 obtain ⟨i0,hi,fq,mq,iq⟩:=info_parts info3;obtain ⟨a,b,rfl,h2⟩:=hv;obtain ⟨A,Uq,rfl,-,-,-⟩:=h2.ships.opened;obtain ⟨B,Wq,rfl,-,-,-⟩:=h2.members.opened;have H2:=hid h2;have HV:=hid qg;clear h2 qg;refine (callsIn_wide (n:=9)).1 ?_;refine callsIn_of_wp_marks func110 rfl trivial ?_ rfl;simp only [ntmps110,List.size_toArray,List.length_cons,List.length_nil,Nat.reduceAdd,Nat.reduceSub,Array.replicate_succ,Array.replicate_zero,List.push_toArray,List.append_toArray,List.nil_append,List.cons_append]
 gi_wp2_with fail
 obtain ⟨W,Nq,k0,Sq,eW⟩:=Q1y w 34 #[.int .i64 s.limit,.slice A s.ships.length Uq,.slice B s.members.length Wq];rw [Nq];clear Nq;obtain ⟨gs,bq⟩:∃ x,w.heap.size=x:=⟨_,rfl⟩;have Nz:=hid bq;rw [bq] at k0 eW ⊢;obtain ⟨w0,rfl⟩:∃ X,X=W:=⟨_,rfl⟩;have KS:=hid k0;have WK:=hid (H2.out.ext Sq.out);have po:Hid (w0.heap.size=gs + 1):=hid eW;clear k0 bq eW;obtain ⟨n,hn⟩:∃ n,s.members.length=n:=⟨_,rfl⟩;have HN:Hid (s.members.length=n):=hid hn;rw [hn] at KS ⊢;obtain ⟨T,hT⟩:∃ n,s.ships.length=n:=⟨_,rfl⟩;have HT:Hid (s.ships.length=T):=hid hT;rw [hT] at KS ⊢;have eX:n <= 8:=by have:=HV.out.some; omega
 have LJ:T <= 6:=by have:=HV.out.tides; omega
 clear hn hT H2;refine X9i 19 n 0 [4,5,6,7,8,9,10,11,19,20,21,22,23,24,25,26,27,28,29,30,31,32,33,34,35,36,37,38,39,40,41,42,43,44,45,46,47,48,49,80,81,82,83,84,85,86,87,88] [] (fun k a Ds W1=>a.tmps.getD 19 undef=.int .i64 k /\ K1l s w0 k (a.tmps.getD 4 undef) (a.tmps.getD 5 undef) Ds W1) (fun k a Ds w h=>by rw [h.1]; rfl) rfl (by kernel_rfl)
  ⟨rfl,⟨Nat.zero_le _,⟨[],Q1b.nil _ _ _ _ _,rfl,GrR.nil _⟩,rfl,Marked.nil _,(fun D h=>absurd h List.not_mem_nil),Ext.refl _⟩⟩ ?round
 rintro k u Ds wA ⟨dV,hG⟩ K hK;simp only [X6e,List.foldl_cons,List.foldl_nil,List.setIfInBounds_toArray,List.set_cons_succ,List.set_cons_zero] at dV hG ⊢;replace dV:u 19=.int .i64 k:=dV;replace hG:K1l s w0 k (u 4) (u 5) Ds wA:=hG;rw [dV];have ah:=hG.sum;rw [ah];have HG:=hid hG;have HK:=hid hK;obtain ⟨vo,jK⟩:∃ x,u 4=x:=⟨_,rfl⟩;rw [jK] at HG ⊢;have hk:k <= n:=by have:=hG.le; rw [HN.out] at this; exact this
 clear dV hG hK ah jK
 by_cases Tq:k < n
 . have Lj:(k:Int) < n:=by omega
   refine wpIn_wide.2 ?_;have lj:=HG.out.ext;have Cx:=KS.out.ext lj;have uK:=WK.out.ext lj;obtain ⟨bm,off,Rq,Jq,Bq,X,Y,Z,aq⟩:=Q3s uK.members (k:=k) (by rw [HN.out]; exact Tq)
   have hA:=aq.addr;subst hA;have V0:=hid aq;have e0:=aq.e0;have e1:=aq.e1;have e2:=aq.e2;have e3:=aq.e3;have e4:=aq.e4;obtain ⟨nm,vj⟩:∃ x,Q1t s.members k=x:=⟨_,rfl⟩;obtain ⟨wt,Vj⟩:∃ x,Q0o s.members k=x:=⟨_,rfl⟩;obtain ⟨lc,mj⟩:∃ x,(Q0c s.members k).length=x:=⟨_,rfl⟩;obtain ⟨lo,Lx⟩:∃ x,(Q0z s.members k).length=x:=⟨_,rfl⟩;obtain ⟨li,yx⟩:∃ x,(Q1g s.members k).length=x:=⟨_,rfl⟩;have Ox:=hid aq.x;rw [vj] at e0;rw [Vj] at e1;rw [mj] at e2 Ox;rw [Lx] at e3;rw [yx] at e4;have c2:wA.cell? ⟨gs,2,none⟩=some (.slice (some ⟨bm,off,none⟩) n Wq):=Cx.cell 2;have b7:=hid Cx;have HS2r:=hid uK;clear lj Cx uK aq vj Vj mj Lx yx;go_wp2_with (with_reducible (refine Y8g ?_); refine Q0v rfl _ _ _ rfl J7l rfl rfl (Blk.made _ _ _) rfl rfl J3l ?_; intro w3 Jv mg U4; refine halted ?_);obtain ⟨gm,xz⟩:∃ x,wA.heap.size=x:=⟨_,rfl⟩;have N7:=hid xz;have Dj:Ext wA w3:=Below.trans (Ext.box wA _) (mg _ (Nat.le_refl _));have cV:gm < w3.heap.size:=by have:=(mg _ (Nat.le_refl _)).size; simp at this; omega
   rw [xz] at Jv ⊢;have S2:=hid Jv;have Uy:=hid Dj;have bV:=hid cV;have c2b:(w3.alloc (.cells #[.slice none 0 0] 22)).cell? ⟨gs,2,none⟩=some (.slice (some ⟨bm,off,none⟩) n Wq):=(Dj.trans (Ext.box w3 _)).cell c2;clear Jv mg U4 Dj xz c2 e0 e1 e2 e3 e4 cV;unfold Q1o;go_wp2_with fail;obtain ⟨W,Nq,k0,Sq,eW⟩:=Q1y w3 22 #[.slice none 0 0];rw [Nq];clear Nq;obtain ⟨gb,Jw⟩:∃ x,w3.heap.size=x:=⟨_,rfl⟩;have B9:=hid Jw;have O8:=hid (Uy.out.trans Sq.out);have Pd:gm < gb:=by have:=bV.out; omega
   rw [Jw] at k0 eW ⊢;obtain ⟨w4,rfl⟩:∃ X,X=W:=⟨_,rfl⟩;have Bb:=hid k0;have oo:=hid (S2.out.ext Sq.out);have aV:Hid (w4.heap.size=gb + 1):=hid eW;clear k0 eW Jw Sq S2 Uy bV c2b;obtain ⟨cl,hcl⟩:∃ x,Q0c s.members k=x:=⟨_,rfl⟩;have Yz:Hid (Q0c s.members k=cl):=hid hcl;rw [hcl] at Ox;have Zi:=hid (fun j=>Y4z s j k);rw [hcl] at Zi;clear hcl
   go_loopw [28] (fun i w5=>∃ (j:Nat) (vm:Value),j <= n /\ i=.int .i64 j /\ Blk w5 gb 22 #[vm] /\ Q0n w5 (gb + 1) 3 (.int .i64) vm (X7e s j k) /\ Below gb w4 w5 /\ gb + 1 <= w5.heap.size) (fun i _=>n - (intOf i).toNat)
   case atStart=>exact ⟨0,_,Nat.zero_le _,rfl,Bb.out,Q0n.nil _ _ _ _,Below.refl _ _,by have:=aV.out; omega⟩
   case round =>
    obtain ⟨j,vm,hj,rfl,WZ,Yq,dq,Od⟩:=hrel
    by_cases Ub:j < n
    . have Q7:(j:Int) < n:=by omega
      have fJ:Ext wA wr:=Below.trans O8.out (dq.mono (by have:=N7.out; omega))
      have V1:=oo.out.below dq Pd;have HQ:=hid (Z3b wr gs gm j _ _ s _ _ _ _ _ cl (by rw [HN.out,HT.out]; exact b7.out.ext fJ) (HS2r.out.ext fJ) V1 (Ox.out.ext fJ) (by rw [HN.out]; exact Ub))
      obtain ⟨q,hq⟩:∃ q,decide (Q0c s.members j=cl)=q:=⟨_,rfl⟩;have WJ:=Zi.out j;rw [hq] at HQ WJ;have gZ:=hid WJ;have N0:=hid dq;have Fq:=X9t s k j;have Mv:(X7e s j k).length <= 4096:=by omega
      obtain ⟨w5,rfl⟩:∃ X,X=wr:=⟨_,rfl⟩;clear hq WJ fJ V1 dq Fq;cases q with
      | false =>
        go_wp2_with (go_at_call 169; refine HQ.out.mono ?_; rintro e w6 ⟨rfl,Kj⟩);go_roundw
        case rel=>exact ⟨j + 1,vm,by omega,by go_num,WZ.ext Kj,by rw [gZ.out]; simpa using Yq.below Kj,Below.trans N0.out (Kj.mono (by omega)),by have:=Kj.size; omega⟩
        case measure=>simp [intOf]; omega
      | true =>
        go_wp2_with (go_at_call 169; refine HQ.out.mono ?_; rintro e w6 ⟨rfl,Kj⟩; refine halted ?_);have C6:=WZ.ext Kj;have o6:=Yq.below Kj;have Bc:gb + 1 <= w6.heap.size:=by have:=Kj.size; omega
        have c6:w6.cell? ⟨gb,0,none⟩=some vm:=C6.cell 0;have MJ:=hid C6;have Yx:=hid Kj;clear WZ Yq C6;unfold Q1o;go_wp2_with ((at_builtin; refine wpList_append_own _ rfl _ _ 22 rfl (gb + 1) 3 i0 (.int .i64 0) 1 8 underlying22 hi fq mq iq rfl (by decide) _ _ _ rfl (World.ownsRow.alloc o6 _) ⟨w6.heap.size,0,none⟩ 1 1 [.int .i64 (j:Int)] rfl rfl ?_ ?_ ?_ ?_ ?_ ?_; exact Q4d _ _ _; (focus (simp [Value.oneCell'])); (focus (unfold maxLen; omega)); (focus omega); (focus (have:=Kj.size; simp at this ⊢; omega)); intro v' w1 Oq Pq _); refine halted ?_)
        have jx:Below (gb + 1) w6 w1:=Z0z o6 Pq (Nat.le_refl _) Bc;have Fk:=MJ.out.below jx (by omega)
        have c1':w1.cell? ⟨gb,0,none⟩=some vm:=Fk.cell 0;have f1:=Fk.frozen 0;have Yw:=hid Fk;have Kv:=hid jx;have PJ:Hid (gb + 1 <= w1.heap.size):=hid (by have:=jx.size; omega)
        have lq:=hid (show Q0n w1 (gb + 1) 3 (.int .i64) v' (X7e s j k ++ [(j:Int)]) from Q0n.snoc Oq)
        clear Pq Fk jx Oq o6 Kj;obtain ⟨Av,cv',rfl,-⟩:=lq.out.shape;unfold Q1o;go_wp2;go_roundw
        case rel=>exact ⟨j + 1,_,by omega,by go_num,Yw.out.set 0 _,by rw [show X7e s (j + 1) k=X7e s j k ++ [(j:Int)] from by rw [gZ.out]; rfl]; have h:=lq.out; rw [List.length_append] at h; exact h.setCell (p:=⟨gb,0,none⟩) (Nat.lt_succ_self _) _,(Below.trans N0.out (Below.trans (Yx.out.mono (by omega)) (Kv.out.mono (Nat.le_succ _)))).setCell (p:=⟨gb,0,none⟩) (Nat.le_refl _) _,by have:=PJ.out; simp; omega⟩
        case measure=>simp [intOf]; omega
    . have Q7:¬ (j:Int) < n:=by omega
      have N5:j=n:=by omega
      subst N5;obtain ⟨w5,rfl⟩:∃ X,X=wr:=⟨_,rfl⟩;have fJ:Ext wA w5:=Below.trans O8.out (dq.mono (by have:=N7.out; omega))
      have Yi:X7e s j k=Y1j s k:=by unfold X7e Y1j; rw [X5r,HN.out]
      have Fq:=X9t s k j;rw [Yi] at Yq Fq;obtain ⟨h0,tl,Kw,V2⟩:=J6v HN.out Tq;have ZW:Y1j s k=(h0:Int) :: tl.map Int.ofNat:=by unfold Y1j; rw [Kw]; rfl
      have fY:0 < (Y1j s k).length:=by rw [ZW]; simp
      have R6:ix (Y1j s k) 0=(h0:Int):=by rw [ZW]; rfl
      have lq:=hid Yq
      rcases Yq.cells2 with ⟨_,h⟩ | ⟨gv,cv,rfl,YW,Ya,dr,P7⟩
      . rw [ZW] at h; cases h
      . have Az:w5.cell? ⟨gv,0,none⟩=some (.int .i64 (h0:Int)):=by
         have h:=P7 0 fY;rw [show (Y1j s k)[0]=(h0:Int) from by rw [<- R6,Q5i fY]] at h
         exact h
        have Xi:=hid P7;have eJ:w5.cell? ⟨gb,0,none⟩=some (.slice (some ⟨gv,0,none⟩) (Y1j s k).length cv):=WZ.cell 0;have dY:=hid WZ;have Lq:=hid fJ;have Q8:=hid dq;have XW:=hid Kw;have Ak:=hid Fq;have Nd:=hid ZW;obtain ⟨L,hL⟩:∃ L,Y1j s k=L:=⟨_,rfl⟩;have Ww:=hid hL;obtain ⟨N,hN⟩:∃ N,L.length=N:=⟨_,rfl⟩;have mo:=hid hN;rw [hL] at eJ fY Xi dY lq Ak Nd;rw [hN] at eJ fY dY lq Ak;have ko:(0:Int) < N:=by omega
        clear hL hN WZ fJ dq Kw Fq ZW P7 R6 YW Ya Yi Yq
        by_cases dJ:Z1w (Q8h s) k=true
        . have he:h0=k:=by rw [V2] at dJ; simpa using dJ
          have hne:((h0:Int) != (k:Int))=false:=by simp [he]
          have jo:=hid dJ;clear dJ V2;go_wp2_with (with_reducible (refine Y8g ?_); refine Q0v rfl _ _ _ rfl K0d rfl rfl (Blk.made _ _ _) rfl rfl J3i ?_; intro w7 Gw Wi io; refine halted ?_);obtain ⟨gg,Md⟩:∃ x,w5.heap.size=x:=⟨_,rfl⟩;have VZ:=hid Md;rw [Md] at Gw ⊢;have W4:Ext w5 w7:=Below.trans (Ext.box w5 _) (Wi _ (Nat.le_refl _));have pz:=hid W4;have bJ:=hid (Lq.out.trans W4);have P4:=hid Gw;have WW:=hid (dY.out.ext W4);have c16:w7.cell? ⟨gs,1,none⟩=some (.slice A T Uq):=(b7.out.ext bJ.out).cell 1;have aJ:gg < w7.heap.size:=by have:=Gw.lt; omega
          clear Gw Wi io W4 Md eJ Az hne;unfold Q1o;go_wp2_with (go_at_call 112; refine (Y6x w7 (T:Int)).mono ?_; rintro e w8 ⟨rfl,T0,oQ,Vy⟩; refine halted ?_);have fo:=hid (P4.out.ext Vy);have Zv:=hid (bJ.out.trans Vy);have VW:=hid (WW.out.ext Vy);obtain ⟨ge,LQ⟩:∃ x,w7.heap.size=x:=⟨_,rfl⟩;rw [LQ] at T0 oQ aJ ⊢;have UW:=hid aJ;have eo:=hid (lq.out.below (pz.out.trans Vy));have l8:=hid (pz.out.trans Vy);have AX:T <= 8:=by omega
          clear Vy c16 LQ P4 WW pz bJ dY aJ;unfold Q1o;go_wp2_with fail;obtain ⟨ml,qw⟩:∃ l,X1y s k=l:=⟨_,rfl⟩;have gX:Hid (X1y s k=ml):=hid qw;have Ld:L=ml.map Int.ofNat:=by rw [<- Ww.out,<- qw]; rfl
          have Vi:ml.length=N:=by rw [<- mo.out,Ld,List.length_map]
          have tq:∀ x ∈ ml,x < j:=fun x hx=>by rw [<- qw] at hx; have:=List.mem_range.1 (List.mem_filter.1 hx).1; rw [HN.out] at this; exact this
          have dQ:=hid tq;have Kd:ml.length <= 8:=by have:=Ak.out; omega
          have TW:=fun c=>Y5h HV.out (l:=ml) (fun x hx=>by rw [HN.out]; exact tq x hx) Kd c
          have Ui:=hid TW;have SW:=fun c jj A3=>Y6k HV.out (l:=ml) (fun x hx=>by rw [HN.out]; exact tq x hx) c jj A3
          have bo:=hid SW;have Jd:=hid Ld;have Gd:=hid Vi;clear qw Ld Vi tq TW SW XW;refine (wpIn_wide (n:=9)).1 ?_;refine X2w (n:=9) rfl (by omega) (gf:=170) (lb:=#[.pointer (some ⟨ge,0,none⟩)]) rfl trivial (enters_of func170 (by kernel_rfl) rfl)
           (X5p _ ge T w8 AX T0) rfl (fun h1 h2=>Eq.trans h2 h1) (fun h=>h.same (by omega)) (fun h ho=>h.own ho)
           (fun c W=>Blk W gg 64 #[.slice (some ⟨gv,0,none⟩) N cv,.int .i64 (Z3z s ml c)] /\ Below gg w8 W /\ Marked W Ds)
           (fun c A B ⟨h1,h2,h3⟩ hx=>⟨h1.ext hx,Below.trans h2 (hx.mono (by have:=h1.lt; omega)),h3.ext hx⟩)
           (fun h ⟨h1,h2,h3⟩=>⟨h.blk h1,Below.trans h2 (h.below (by have:=UW.out; omega)),h3.turns (fun D hD=>by have:=HG.out.marked.lt hD; have:=Zv.out.size; omega) h⟩)
           ⟨fo.out,Below.refl _ _,HG.out.marked.ext Zv.out⟩ ?frm ?assign ?body ?done
          case assign =>
           intro l x W K hK
           gi_wp2
           exact hK
          case done =>
           rintro D W hD ⟨hb,hB,m6⟩ RW;have Fd:Z3z s ml (2 ^ T)=(Z3u s k).weight:=by show _=X4p s (X1y s k); rw [gX.out]; unfold X4p Z3z; rw [HT.out]
           rw [Fd] at hb;have Gx:Ext wA W:=Below.trans Zv.out (hB.mono (by have:=Lq.out.size; have:=VZ.out; omega))
           have nz:0 <= (Z3u s k).weight /\ (Z3u s k).weight <= 8000:=by rw [<- Fd]; exact Ui.out _
           have l6:Marked W (D :: Ds):=m6.cons RW fun E hE=>by have:=HG.out.marked.lt hE; have:=Zv.out.size; omega
           have j6:∀ E,E ∈ D :: Ds -> w0.heap.size <= E:=fun E hE=>by
            rcases List.mem_cons.1 hE with rfl | hE
            . have:=Zv.out.size; have:=HG.out.ext.size; omega
            . exact HG.out.low E hE
           obtain ⟨gl,ho,xz,Xy⟩:=HG.out.own;have Zy:Q0n W (gb + 1) 3 (.int .i64) (.slice (some ⟨gv,0,none⟩) N cv) L:=lq.out.below (Below.trans l8.out (hB.mono (by have:=VZ.out; omega)))
           have Ti:gl.length <= 8:=by
            have h:=congrArg List.length xz;rw [List.length_map,Q6n,List.length_map] at h;have:=Q8k (Q8h s) k;omega
           have hsm:=J9b HV.out k;have QW:=Z8o (s:=s) (k:=k) jo.out;have Ay:∀ b,vo.ownBlock=some b -> b ≠ gg:=fun b hb e=>by
            have:=(World.ownsRow.lt ho b hb).2;have:=Lq.out.size; have:=VZ.out; omega
           have Yq:=ho.below Gx;have PW:=Xy.ext Gx;have ZX:=HG.out.ext.trans Gx;have HY:=hid QW;have eQ:=hid hb;have j8:=hid l6;have i8:=hid j6;have ao:=hid ZX;have Zp:=hid Zy;have Ed:=hid xz;have cY:=hid PW;have d0:W.cell? ⟨gg,0,none⟩=some (.slice (some ⟨gv,0,none⟩) N cv):=hb.cell 0;have d1:W.cell? ⟨gg,1,none⟩=some (.int .i64 (Z3u s k).weight):=hb.cell 1;obtain ⟨gw,YX⟩:∃ x,(Z3u s k).weight=x:=⟨_,rfl⟩;have D2:Hid ((Z3u s k).weight=gw):=hid YX;rw [YX] at d1 nz eQ;clear hb hB m6 RW Fd l6 j6 ho Xy PW Zy QW xz YX;obtain ⟨i0,hi,fq,mq,iq⟩:=info_parts J6l;go_wp2_with ((at_builtin; refine wpList_append_own _ rfl _ _ 60 rfl (w0.heap.size) 64 i0 (.agg #[.slice none 0 0,.int .i64 0]) 2 32 underlying60 hi fq mq iq rfl (by decide) _ _ _ rfl (World.ownsRow.alloc Yq _) ⟨W.heap.size,0,none⟩ 1 1 [.slice (some ⟨gv,0,none⟩) N cv,.int .i64 gw] rfl rfl ?_ ?_ ?_ ?_ ?_ ?_; exact X8j _ _ _; (focus (simp [Value.oneCell'])); (focus (unfold maxLen; omega)); (focus omega); (focus (have:=ZX.size; simp at this ⊢; omega)); intro v' w1 Oq Pq _); refine halted ?_)
           have Dd:=hid (Z8a eQ.out Ay Pq);have Si:Ext w0 w1:=Q2d ZX Yq (Nat.le_refl _) Pq;have Cj:KeepsOthers W w1:=(KeepsOthers.alloc W _).trans (KeepsOthers.of_grownBy Pq (fun j o h1 h2=>by
            rcases Yq.2 with ⟨SY,_⟩ | ⟨g,Qq,cur,SY,_,K7,_⟩
            . have h1:vo.ownBlock=some j:=h1
              rw [SY] at h1; cases h1
            . have h1:vo.ownBlock=some j:=h1
              rw [SY] at h1; cases h1;have:=Below.block (Ext.box W (.cells #[.slice (some ⟨gv,0,none⟩) N cv,.int .i64 gw] 64)) g (Array.getElem?_eq_some_iff.1 K7).1;rw [this,K7] at h2; cases h2; rfl))
           have az:=hid Cj;have Yp:=hid Si;have Cd:=hid (show Q1b w1 w0.heap.size 64 2 Q5m v' (gl ++ [(.slice (some ⟨gv,0,none⟩) N cv,Z3u s k)]) from Q1b.snoc (by show w1.ownsRow _ _ _ _ _ (gl.flatMap Q5m ++ [.slice (some ⟨gv,0,none⟩) N cv,.int .i64 (Z3u s k).weight]); rw [D2.out]; exact Oq))
           have Bd:=hid (GrR.grown (cY.out.ext (Ext.box W _)) (World.ownsRow.alloc Yq _) (by decide) Pq)
           have Ad:=hid (Q4l (Zp.out.weaken (Nat.zero_le _) |>.below (Ext.box W _)) (World.ownsRow.alloc Yq _) (by decide) Pq)
           have d1:w1.cell? ⟨gg,1,none⟩=some (.int .i64 gw):=Dd.out.cell 1;have zd:IntKind.i64.wrap (((Q6n s k).map Grp.weight).sum + gw)=((Q6n s k).map Grp.weight).sum + gw:=Q3b _ (by omega) (by omega)
           obtain ⟨sm,XX⟩:∃ x,((Q6n s k).map Grp.weight).sum=x:=⟨_,rfl⟩;have yd:=hid XX;rw [XX] at zd hsm ⊢;clear Yq Oq Pq Si Cj XX d0;unfold Q1o;go_wp2;have Xp:K1l s w0 (k + 1) v' (.int .i64 (sm + gw)) (D :: Ds) w1 :=
            ⟨by rw [HN.out]; omega,⟨gl ++ [(.slice (some ⟨gv,0,none⟩) N cv,Z3u s k)],Cd.out,by rw [List.map_append,Ed.out,HY.out]; rfl,Bd.out.snoc (by show Q0n _ _ _ _ _ (Y1j s k); rw [Ww.out]; exact Ad.out)⟩,
            by rw [HY.out,List.map_append,List.sum_append,yd.out]; show Value.int .i64 (sm + gw)=_; simp [D2.out],j8.out.keeps az.out,i8.out,Yp.out⟩
           exact HK.out _ _ (D :: Ds) Tq (by kernel_rfl) rfl ⟨rfl,Xp⟩
          case body =>
           rintro l c vc W hc ⟨hb,hB,m6⟩ Jz;have Gx:Ext wA W:=Below.trans Zv.out (hB.mono (by have:=Lq.out.size; have:=VZ.out; omega))
           have xd:gb < gg:=by have:=VW.out.lt; have:=Q8.out.size; have:=aV.out; have:=VZ.out; omega
           have c9:W.cell? ⟨gb,0,none⟩=some (.slice (some ⟨gv,0,none⟩) N cv):=(VW.out.below hB xd).cell 0;have Sq:=hid Gx;have eQ:=hid hb;have O5:=hid hB;have b8:=hid m6;have jk:=X1m c T;obtain ⟨cl9,WX⟩:∃ x,Q5l c T=x:=⟨_,rfl⟩;rw [WX] at Jz jk;have vd:Hid (Q5l c T=cl9):=hid WX;have Wp:=hid Jz;obtain ⟨Ac,cc,rfl,-⟩:=Jz.shape;have B7:Hid (cl9.length=T):=hid jk;clear hb hB m6 Jz WX Gx jk
           gi_wp2
           clear c9
           gi_loopw [53,13] (fun i nn wq=>∃ jj:Nat,jj <= N /\ i=.int .i64 jj /\ nn=.int .i64 (Y2i s ml c jj) /\ Ext W wq) (fun i _ _=>N - (intOf i).toNat)
           case atStart=>exact ⟨0,Nat.zero_le _,rfl,rfl,Ext.refl _⟩
           case round =>
            obtain ⟨jj,A3,rfl,rfl,RQ⟩:=hrel;have Kz:=bo.out c jj (by rw [Gd.out]; exact A3)
            by_cases Zj:jj < N
            . have Q7:(jj:Int) < N:=by omega
              have bY:jj < ml.length:=by rw [Gd.out]; exact Zj
              have V1:=dQ.out ml[jj] (List.getElem_mem bY);have fj:=Y3t (s:=s) (c:=c) bY;obtain ⟨kk,S8⟩:∃ x,ml[jj]=x:=⟨_,rfl⟩;have Cw:wr.cell? ⟨gv,jj,none⟩=some (.int .i64 (kk:Int)):=by
               have h:=Xi.out jj (by rw [Jd.out,List.length_map]; exact bY)
               rw [Nat.zero_add,show L[jj]'(by rw [Jd.out,List.length_map]; exact bY)=(kk:Int) from by simp only [Jd.out,List.getElem_map,S8]; rfl] at h
               have ud:Ext w5 wr:=Below.trans l8.out (Below.trans (O5.out.mono (by have:=VZ.out; omega)) (RQ.mono (by have:=l8.out.size; have:=O5.out.size; omega)))
               exact ud.cell h
              rw [S8] at V1 fj;have Dq:Ext wA wr:=Sq.out.trans RQ;obtain ⟨bm',off',capx',capy',capz',X',Y',Z',aq⟩:=Q3s (HS2r.out.ext Dq).members (k:=kk) (by rw [HN.out]; exact V1)
              have hA:=aq.addr;injection hA with hA;injection hA with Vp D6;subst Vp D6;have Vj:=HV.out.weights kk (by rw [HN.out]; exact V1)
              have Fx:=hid aq.e0;have Vk:=hid aq.e1;have Zw:=hid aq.e2;have D3:=hid aq.e3;have UQ:=hid aq.e4;have az:=hid (fun (w1:World) (hx:Ext wr w1)=>X1l w1 _ _ (Q2a s kk) s.limit cl9 (aq.mem hx) ((Wp.out.bools (by rw [B7.out]; omega)).ext (RQ.trans hx)) (by rw [B7.out]; omega) (by rw [B7.out]; exact X5u HV.out (by rw [HN.out]; exact V1) (by rw [HT.out]; exact Nat.le_refl _)))
              obtain ⟨nm',OW⟩:∃ x,Q1t s.members kk=x:=⟨_,rfl⟩;obtain ⟨wt',NW⟩:∃ x,Q0o s.members kk=x:=⟨_,rfl⟩;obtain ⟨lc',MW⟩:∃ x,(Q0c s.members kk).length=x:=⟨_,rfl⟩;obtain ⟨lo',LW⟩:∃ x,(Q0z s.members kk).length=x:=⟨_,rfl⟩;obtain ⟨li',KW⟩:∃ x,(Q1g s.members kk).length=x:=⟨_,rfl⟩;rw [OW] at Fx az;rw [NW] at Vk az fj Vj;rw [MW] at Zw az;rw [LW] at D3 az;rw [KW] at UQ az;rw [HT.out,vd.out] at fj;obtain ⟨kp,Oj⟩:∃ x,(Q2a s kk).keeps s.limit cl9=x:=⟨_,rfl⟩;rw [Oj] at az fj;obtain ⟨kj,JW⟩:∃ x,Y2i s ml c jj=x:=⟨_,rfl⟩;rw [JW] at fj Kz ⊢;have Gj:=hid fj;have VX:=hid (b7.out.ext Dq);have F8:=hid RQ;have Vq:=(Ext.refl wr).drew;have Up:(kk:Int) < j:=by omega
              have Ri:IntKind.i64.wrap (kj + wt')=kj + wt':=Q3b _ (by omega) (by omega)
              obtain ⟨wx,rfl⟩:∃ X,X=wr:=⟨_,rfl⟩;clear S8 aq OW NW MW LW KW Oj JW fj Dq RQ
              gi_wp2
              refine Flow.X3z [.p,.w,.p,.p,.w,.p,.w,.p,.w] [0,1,2,3,4,5,6,7,8] [[],[0],[],[1,2],[3],[],[5],[],[4,6,7]]
               [.c 0 (.pointer (some ⟨gs,2,none⟩)),.c 1 (.slice (some ⟨bm,off,none⟩) j Wq),.c 2 (.int .i64 (kk:Int)),.c 3 (.pointer (some ⟨bm,off + kk * 5,none⟩)),.c 4 (.agg #[.string nm',.int .i64 wt',.slice X' lc' capx',.slice Y' lo' capy',.slice Z' li' capz']),.c 5 (.pointer (some ⟨gs,0,none⟩)),.c 6 (.int .i64 s.limit),.c 7 (.slice Ac cl9.length cc),.c 8 (.bool kp)]
               (by kernel_rfl) (by kernel_rfl) rfl (by kernel_rfl) ⟨?g0,?g1,?g2,?g3,?g4,?g5,?g6,?g7,?g8,trivial⟩ ?post
              case g0 | g2 | g5 | g7=>
               intro v w1 hx;intro bb hbb;subst hbb;refine ⟨_,fun w=>?_,rfl⟩;go_simp
              case g1 | g6=>
               intro v w1 hx;(repeat intro (zq:v _=_));intro bb hbb;subst hbb;have n0:w1.cell? ⟨gs,2,none⟩=some (.slice (some ⟨bm,off,none⟩) j Wq):=(VX.out.ext (Vq.trans hx)).cell 2;have n1:w1.cell? ⟨gs,0,none⟩=some (.int .i64 s.limit):=(VX.out.ext (Vq.trans hx)).cell 0;intro K hK;go_simp;exact hK _ _ (Ext.refl _) rfl
              case g3=>
               intro v w1 hx;(repeat intro (zq:v _=_));intro bb hbb;subst hbb;refine ⟨_,fun w=>?_,rfl⟩;go_simp
              case g4=>
               intro v w1 hx;(repeat intro (zq:v _=_));intro bb hbb;subst hbb;have f0:=(Vq.trans hx).cell Fx.out;have f1:=(Vq.trans hx).cell Vk.out;have f2:=(Vq.trans hx).cell Zw.out;have f3:=(Vq.trans hx).cell D3.out;have f4:=(Vq.trans hx).cell UQ.out;intro K hK;go_simp;exact hK _ _ (Ext.refl _) rfl
              case g8=>
               intro v w1 hx;(repeat intro (zq:v _=_));intro bb hbb;subst hbb;intro K hK;go_simp;refine Q0d (az.out w1 (Vq.trans hx)) ?_;rintro e w2 ⟨rfl,Mq⟩;exact ⟨_,rfl,hK _ _ Mq rfl⟩
              case post =>
               intro v w1 hx;(iterate 9 intro (zq:v _=_));simp only [Flow.All,Flow.acts,Act.put];go_simp;have s2:w1.cell? ⟨gs,2,none⟩=some (.slice (some ⟨bm,off,none⟩) j Wq):=(VX.out.ext (Vq.trans hx)).cell 2;have sw:=(Vq.trans hx).cell Vk.out;have ij:=hid (F8.out.trans (Vq.trans hx));clear hx Vq;(repeat clear zq);cases kp with
               | true =>
                 gi_wp2
                 go_roundw
                 case rel=>exact ⟨jj + 1,by omega,by go_num,by rw [Gj.out]; rfl,ij.out⟩
                 case measure=>simp [intOf]; omega
               | false =>
                 gi_wp2
                 go_roundw
                 case rel=>exact ⟨jj + 1,by omega,by go_num,by rw [Gj.out]; simp,ij.out⟩
                 case measure=>simp [intOf]; omega
            . have Q7:¬ (jj:Int) < N:=by omega
              have N5:jj=N:=by omega
              subst N5;have Cx:=Y8a s ml c;rw [Gd.out] at Cx;rw [Cx];have yY:=Ui.out c;have UX:=X9d s ml c;have UZ:=hid (eQ.out.ext RQ);have F8:=hid RQ;have c25:wr.cell? ⟨gg,1,none⟩=some (.int .i64 (Z3z s ml c)):=UZ.out.cell 1;have f25:=UZ.out.frozen 1;obtain ⟨gj,Qi⟩:∃ x,Z3z s ml c=x:=⟨_,rfl⟩;obtain ⟨kn,nj⟩:∃ x,X2i s ml c=x:=⟨_,rfl⟩;rw [Qi] at c25 UX yY UZ;rw [nj] at UX ⊢;have QQ:=hid UX;clear Cx Qi nj UX RQ Kz
              gi_wp2
              all_goals (exact ⟨(Y1f F8.out).trans (KeepsOthers.setCell _ _ _),(Q3x _ _ _ _ (by show ge ≠ gg; have:=UW.out; omega)).trans (Below.block F8.out _ (by have:=O5.out.size; have:=l8.out.size; omega)),
               by first | (rw [QQ.out]; exact UZ.out.set 1 (.int .i64 (max gj kn))) | (rw [QQ.out,show max gj kn=gj from by omega]; exact UZ.out.set 1 (.int .i64 gj)) | (rw [QQ.out,show max gj kn=kn from by omega]; exact UZ.out.set 1 (.int .i64 kn)),
               (Below.trans O5.out (F8.out.mono (by have:=eQ.out.lt; omega))).setCell (p:=⟨gg,1,none⟩) (Nat.le_refl _) _,(b8.out.ext F8.out).keeps (KeepsOthers.setCell _ _ _)⟩)
        . have hne:((h0:Int) != (k:Int))=true:=by
           have:¬ h0=k:=fun e=>dJ (by rw [V2,e]; simp)
           simp; omega
          have Pi:=hid (J0q (s:=s) (k:=k) (by simpa using dJ))
          clear dJ V2;go_wp2;obtain ⟨gl,ho,hm,Xy⟩:=HG.out.own;exact HK.out _ _ Ds Tq (by kernel_rfl) rfl ⟨rfl,⟨by rw [HN.out]; omega,⟨gl,ho.below Lq.out,by rw [hm,Pi.out],Xy.ext Lq.out⟩,by rw [Pi.out]; rfl,HG.out.marked.ext Lq.out,HG.out.low,HG.out.ext.trans Lq.out⟩⟩
 . have Lj:¬ (k:Int) < n:=by omega
   have nj:k=n:=by omega
   subst nj
   gi_wp2_with fail
   obtain ⟨gl,ho,hm,Xy⟩:=HG.out.own;have oq:Q6n s k=Q1k s:=by rw [<- HN.out]; exact Z7r s
   rw [oq] at hm ⊢;have Zq:Ext w wA:=Sq.out.trans HG.out.ext;change LeavesInM Fence.wide 9 prog Tryz.f110 _ _ (marks Ds) _ _;refine Q6k (n0:=w0.heap.size) (fun W=>Q1b W w0.heap.size 64 2 Q5m vo gl /\ GrR W gl /\ Ext w W) (fun A B h ht=>⟨ht.K2m h.1,fun q hq=>ht.own (h.2.1 q hq),Below.trans h.2.2 (ht.below Sq.out.size)⟩) ?_ Ds _ HG.out.marked HG.out.low ⟨ho,Xy,Zq⟩;rintro W ⟨kJ,O0,Yj⟩;exact ⟨_,results_tmp2 rfl _ _ _,vo,rfl,by rw [<- hm]; exact Z0w kJ O0 (by rw [<- List.length_map (f:=(·.2)),hm]; have:=Z2s s; have:=HV.out.some; omega) (fun q hq=>by
    have h:q.2 ∈ Q1k s:=by rw [<- hm]; exact List.mem_map_of_mem hq
    have:=Z1g s _ h;have:=HV.out.some;omega),Yj⟩
end Go.Proofs
