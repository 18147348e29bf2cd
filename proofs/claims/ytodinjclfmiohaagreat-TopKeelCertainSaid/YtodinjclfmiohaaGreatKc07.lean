/- What the law PolicyInformed asks, plain: levels and Q8n tide by tide, the sums over the members, a turned rule, Z9g members. No program in sight. The pond played tide by tide on lists: its volumes are a member's levels and Q8n. No program in sight. Contract: Follow (of the program). Contract of the law's own function: keelCourse. Contract: together. Contract: the function that decide lays over the plans. Contract: mapped over plans, by the function that decide lays over them. Contract: the function that moved lays over the runners. Contracts: mapped over runners, moved. Plain law: how many plans there are (two for each history at most), and how great their numbers are. -/
import Derived.Test.YtodinjclfmiohaaGreatKc02
import Derived.Test.YtodinjclfmiohaaGreatKc06
import Derived.Test.YtodinjclfmiohaaGreatKc05
import Derived.Test.YtodinjclfmiohaaGreatKc03
import Derived.Maps.AppendAt
set_option maxRecDepth 1000000
set_option maxHeartbeats 64000000
set_option linter.unusedVariables false
set_option linter.unusedSimpArgs false
set_option linter.constructorNameAsVariable false
namespace Go.Proofs
open Go.Tw
def Z7t (m:Mem) (cl:List Bool):Nat -> Int
 | 0=>0
 | t + 1=>if bx cl t then Z7t m cl t + ix m.inflow t else 0
def Q9h (m:Mem) (cl:List Bool) (t:Nat):Int:=if bx cl t then Z7t m cl t + ix m.inflow t else ix m.outside t
theorem Z4e (m:Mem) (cl:List Bool):∀ t,t <= cl.length -> m.Q8n cl = (List.range t).map (Q9h m cl) ++ m.Q2i t (Z7t m cl t) (cl.drop t)
 | 0,_=>rfl
 | t + 1,h=>by
   rw [Z4e m cl t (by omega),Y2f m cl (by omega:t < cl.length),List.range_succ,List.map_append,List.append_assoc]
   congr 1
   cases hb:bx cl t with
   | false=>simp [Mem.stepT,Q9h,Z7t,hb]
   | true=>simp [Mem.stepT,Q9h,Z7t,hb]
theorem Z3x {m:Mem} {cl:List Bool} {t:Nat} (ht:t < cl.length):ix (m.Q8n cl) t = Q9h m cl t:=by
 rw [Z4e m cl cl.length (Nat.le_refl _)];unfold ix;rw [List.getD_eq_getElem?_getD,List.getElem?_append_left (by simpa using ht)]
 simp [ht]
theorem Z3d {m:Mem} {cl:List Bool} (h:∀ k,k < cl.length -> 0 <= ix m.inflow k /\ ix m.inflow k <= 1024):∀ t,t <= cl.length -> 0 <= Z7t m cl t /\ Z7t m cl t <= 1024 * t
 | 0,_=>by simp [Z7t]
 | t + 1,ht=>by
   have ih:=Z3d h t (by omega)
   have hk:=h t (by omega)
   unfold Z7t
   split <;> omega
def Q5t (f:Nat -> Int) (k:Nat):Int:=((List.range k).map f).sum
theorem Q5h (f:Nat -> Int) (k:Nat):Q5t f (k + 1) = Q5t f k + f k:=by
 unfold Q5t;rw [List.range_succ,List.map_append,List.sum_append]; simp
theorem Q7u {f:Nat -> Int} {b:Int} {n:Nat} (h:∀ i,i < n -> 0 <= f i /\ f i <= b) (hb:0 <= b):∀ k,k <= n -> 0 <= Q5t f k /\ Q5t f k <= b * k
 | 0,_=>by simp [Q5t]
 | k + 1,hk=>by
   have ih:=Q7u h hb k (by omega)
   have hf:=h k (by omega)
   rw [Q5h];have e:b * ((k + 1:Nat):Int) = b * (k:Int) + b:=by rw [Int.natCast_succ,Int.mul_add,Int.mul_one]
   rw [e];omega
end Go.Proofs
namespace Go.Tw
open Go.Ba Go.Proofs
theorem J3t:Q6r.X4j ⟨Q2m,-1,0,0,1⟩ = ⟨.barrier,-1,0,0,1⟩:=by
 have h:(Z6i Q2m).getD .barrier = .barrier:=by unfold Z6i; rw [if_pos rfl]; rfl
 unfold Q6r.X4j;simp only [h]
theorem J4f {lim u t:Int} (o:Bool) (i:List Int):Q2z (Q5c lim) ⟨t,o,i⟩ 0 [u] = if o then max (-u) (t - u) else 0:=by
 have e:(lk (Q5c lim).links 0).X4j = ⟨.barrier,-1,0,0,1⟩:=J3t;unfold Q2z;rw [e];have a:Q6m (Q5c lim).nodes 0 = 1:=rfl;unfold Lk.flow Lk.node;simp [a,ix]
theorem X8f {lim v x t:Int} (o:Bool) (hv:0 <= v + x /\ v + x <= 100000000) (ht:0 <= t /\ t <= 100000000):(Q3w (Q5c lim) [v] ⟨t,o,[x]⟩).1 = [if o then t else v + x] /\ (Q3w (Q5c lim) [v] ⟨t,o,[x]⟩).2.1 = true:=by
 have hin:Q8j [v] [x] 1 = ([v + x],true):=by
  have h0:(0:Int).toNat = 0:=rfl;simp [Q8j,Q5x,Q6t,ix,hv.2]
 have h:Q3w (Q5c lim) [v] ⟨t,o,[x]⟩ = Q5b (Q5c lim) ⟨t,o,[x]⟩ (Q8j [v] [x] 1).1 (Q8j [v] [x] 1).2 1:=rfl;rw [h,hin];have hs:(lk (Q5c lim).links 0).src = -1:=rfl;have hd:(lk (Q5c lim).links 0).dst = 0:=rfl;have h1:Q5b (Q5c lim) ⟨t,o,[x]⟩ [v + x] true 1 = (Q5x (Q5x [v + x] (-1) (-(Q2z (Q5c lim) ⟨t,o,[x]⟩ 0 [v + x]))) 0 (Q2z (Q5c lim) ⟨t,o,[x]⟩ 0 [v + x]),((true && Q6t (Q5x [v + x] (-1) (-(Q2z (Q5c lim) ⟨t,o,[x]⟩ 0 [v + x]))) (-1)) && Q6t (Q5x (Q5x [v + x] (-1) (-(Q2z (Q5c lim) ⟨t,o,[x]⟩ 0 [v + x]))) 0 (Q2z (Q5c lim) ⟨t,o,[x]⟩ 0 [v + x])) 0),[] ++ [Q2z (Q5c lim) ⟨t,o,[x]⟩ 0 [v + x]]):=rfl;rw [h1,J4f];cases o with
 | false =>
   simp [Q5x,Q6t,ix];omega
 | true =>
   have e:max (-(v + x)) (t - (v + x)) = t - (v + x):=by omega
   simp only [if_true,e];simp [Q5x,Q6t,ix];omega
structure Y7c (m:Mem) (n:Nat):Prop where
 i:∀ k,k < n -> 0 <= ix m.inflow k /\ ix m.inflow k <= 1024
 o:∀ k,k < n -> 0 <= ix m.outside k /\ ix m.outside k <= 1024
 n:n <= 48
theorem X4k {lim:Int} {m:Mem} {cl:List Bool} (h:Y7c m cl.length):∀ k,k <= cl.length -> Q3x (Q5c lim) [0] (Q1i m.outside m.inflow cl cl.length) (2 * k) = [Z7t m cl k]
 | 0,_=>rfl
 | k + 1,hk=>by
   have ih:=X4k (lim:=lim) h k (by omega)
   obtain ⟨t0,t1⟩:=X3r m.outside m.inflow cl cl.length k (by omega)
   have hb:=Z3d (fun j hj=>h.i j hj) k (by omega)
   have hi:=h.i k (by omega)
   have ho:=h.o k (by omega)
   have hn:=h.n;have e1:Q3x (Q5c lim) [0] (Q1i m.outside m.inflow cl cl.length) (2 * k + 1) = [Q9h m cl k]:=by
    show (Q3w (Q5c lim) (Q3x (Q5c lim) [0] _ (2 * k)) (cd _ (2 * k))).1 = _;rw [ih,t0,(X8f _ (by omega) (by omega)).1]
    unfold Q9h;cases bx cl k <;> rfl
   show (Q3w (Q5c lim) (Q3x (Q5c lim) [0] _ (2 * k + 1)) (cd _ (2 * k + 1))).1 = _;have hp:0 <= Q9h m cl k /\ Q9h m cl k <= 60000:=by unfold Q9h; split <;> omega
   rw [e1,t1,(X8f _ (by omega) (by decide)).1]
   unfold Z7t Q9h;cases bx cl k <;> simp
theorem X2y {lim:Int} {m:Mem} {cl:List Bool} (h:Y7c m cl.length) {k:Nat} (hk:k < cl.length):Q3x (Q5c lim) [0] (Q1i m.outside m.inflow cl cl.length) (2 * k + 1) = [Q9h m cl k] /\ Q3p (Q5c lim) [0] (Q1i m.outside m.inflow cl cl.length) (2 * k) = true /\ Q3p (Q5c lim) [0] (Q1i m.outside m.inflow cl cl.length) (2 * k + 1) = true:=by
 have ih:=X4k (lim:=lim) h k (by omega)
 obtain ⟨t0,t1⟩:=X3r m.outside m.inflow cl cl.length k hk;have hb:=Z3d (fun j hj=>h.i j hj) k (by omega)
 have hi:=h.i k hk;have ho:=h.o k hk;have hn:=h.n;have e1:Q3x (Q5c lim) [0] (Q1i m.outside m.inflow cl cl.length) (2 * k + 1) = [Q9h m cl k]:=by
  show (Q3w (Q5c lim) (Q3x (Q5c lim) [0] _ (2 * k)) (cd _ (2 * k))).1 = _;rw [ih,t0,(X8f _ (by omega) (by omega)).1]
  unfold Q9h;cases bx cl k <;> rfl
 have hp:0 <= Q9h m cl k /\ Q9h m cl k <= 60000:=by unfold Q9h; split <;> omega
 refine ⟨e1,?_,?_⟩
 . show (Q3w (Q5c lim) (Q3x (Q5c lim) [0] _ (2 * k)) (cd _ (2 * k))).2.1 = _
   rw [ih,t0,(X8f _ (by omega) (by omega)).2]
 . show (Q3w (Q5c lim) (Q3x (Q5c lim) [0] _ (2 * k + 1)) (cd _ (2 * k + 1))).2.1 = _
   rw [e1,t1,(X8f _ (by omega) (by decide)).2]
theorem Y8x {lim:Int} {m:Mem} {cl:List Bool} (h:Y7c m cl.length) (j:Nat) (hj:j < (Q1i m.outside m.inflow cl cl.length).length):Q3p (Q5c lim) [0] (Q1i m.outside m.inflow cl cl.length) j = true:=by
 rw [Q3g] at hj;have h2:=X2y (lim:=lim) h (k:=j / 2) (by omega)
 rcases Nat.mod_two_eq_zero_or_one j with e | e
 . rw [show j = 2 * (j / 2) by omega]; exact h2.2.1
 . rw [show j = 2 * (j / 2) + 1 by omega]; exact h2.2.2
theorem Y2w {lim:Int} {m:Mem} {cl:List Bool} (h:Y7c m cl.length):Q7t (Q5c lim) (Q1i m.outside m.inflow cl cl.length):=by
 have key:∀ k,k < (Q1i m.outside m.inflow cl cl.length).length -> ∃ t o x,cd (Q1i m.outside m.inflow cl cl.length) k = ⟨t,o,[x]⟩ /\ (0 <= t /\ t <= 1024) /\ 0 <= x /\ x <= 1024:=fun k hk=>by
  rw [Q3g] at hk;obtain ⟨t0,t1⟩:=X3r m.outside m.inflow cl cl.length (k / 2) (by omega)
  rcases Nat.mod_two_eq_zero_or_one k with e | e
  . rw [show k = 2 * (k / 2) by omega]; exact ⟨_,_,_,t0,h.o _ (by omega),h.i _ (by omega)⟩
  . rw [show k = 2 * (k / 2) + 1 by omega]; exact ⟨_,_,_,t1,by omega,by omega,by omega⟩
 refine ⟨fun k hk=>?_,fun k hk j=>?_,fun k hk=>?_⟩
 . obtain ⟨t,o,x,e,-,-⟩:=key k hk
   rw [e]; rfl
 . obtain ⟨t,o,x,e,-,hx⟩:=key k hk
   rw [e];cases j with
   | zero=>show 0 <= x /\ x <= 100000; omega
   | succ j=>rw [Z8j (V:=[x]) (by simp)]; omega
 . obtain ⟨t,o,x,e,ht,-⟩:=key k hk
   rw [e]; show -1024 <= t /\ t <= 1024; omega
theorem Z2m {lim v:Int}:X1t (Q5c lim) [v] 1 = [] ↔ v <= lim:=by
 have e:X1t (Q5c lim) [v] 1 = if J4n (Q5c lim) [v] 0 = true then [0] else []:=by
  rw [show (1:Nat) = 0 + 1 from rfl,Y2h]; rfl
 have a:Q6m (Q5c lim).nodes 0 = 1:=rfl;have b:X2e (Q5c lim).nodes 0 = lim:=rfl;have c:J4n (Q5c lim) [v] 0 = decide (lim < v):=by unfold J4n; rw [a,b]; simp [ix]
 rw [e,c]
 by_cases h:lim < v
 . simp [h]
 . simp [h]; omega
theorem J3y {lim:Int} (hl:0 <= lim) {m:Mem} {cl:List Bool} (h:Y7c m cl.length):(∀ k,k < (Q1i m.outside m.inflow cl cl.length).length -> X6w (Q5c lim) [0] (Q1i m.outside m.inflow cl cl.length) k = []) ↔ ∀ k,k < cl.length -> Q9h m cl k <= lim:=by
 rw [Q3g]
 constructor
 . intro hd k hk
   have:=hd (2 * k) (by omega)
   unfold X6w at this;rw [(X2y h hk).1] at this;exact Z2m.1 this
 . intro hp k hk
   unfold X6w
   rcases Nat.mod_two_eq_zero_or_one k with e | e
   . rw [show k + 1 = 2 * (k / 2) + 1 by omega,(X2y h (by omega)).1]
     exact Z2m.2 (hp _ (by omega))
   . rw [show k + 1 = 2 * (k / 2 + 1) by omega,X4k h _ (by omega)]
     refine Z2m.2 ?_;have:=hp (k / 2) (by omega)
     unfold Q9h at this;unfold Z7t
     split
     . rename_i e2; rw [if_pos e2] at this; exact this
     . exact hl
end Go.Tw
namespace Go.Proofs
open Go.RowKit Go.Tw Go.Flow
attribute [local go_sem] Oper.semAt_some
def Q5y (s:Q0b) (n:Int) (l:List Bool):Int:=Q0k [s.err,Q1f (Z1t s n) 10,Q1f (!decide (l.length = s.ships.length)) 2]
def Y0i (s:Q0b) (n:Int) (l:List Bool):List Int:=if Q5y s n l = 0 then (Q1k s n.toNat).Q8n l else []
theorem Y8f {s:Q0b} {n:Int} {l:List Bool} (h:Q5y s n l = 0):J3e s n = 0 /\ l.length = s.ships.length:=by
 unfold Q5y at h;unfold J3e;rw [Q0q] at h
 by_cases he:s.err = 0
 . rw [if_pos he,Q0q] at h
   by_cases hm:Q1f (Z1t s n) 10 = 0
   . rw [if_pos hm,Q0q] at h
     by_cases hl:l.length = s.ships.length
     . refine ⟨?_,hl⟩
       rw [Q0q,if_pos he,Q0q,if_pos hm]; rfl
     . have hw:Q1f (!decide (l.length = s.ships.length)) 2 = 2:=by simp [Q1f,hl]
       rw [hw] at h; exact absurd h (by decide)
   . rw [if_neg hm] at h; exact absurd h hm
 . rw [if_neg he] at h; exact absurd h he
theorem Z1z (w:World) (v u:Value) (s:Q0b) (n:Int) (l:List Bool) (hv:Q0p w v s) (hu:Q2k w u l) (hs:Q2x s) :
    Calls Tryz.prog 40 #[v,.int .i64 n,u] w fun e w'=>∃ x,e = .returned (.tuple #[x,.int .i64 (Q5y s n l)]) /\ Q0e w' x (Y0i s n l) /\ Ext w w':=by
 obtain ⟨a,b,rfl,h2⟩:=hv;obtain ⟨A,capa,rfl,-,-,-⟩:=h2.ships.opened;obtain ⟨B,capb,rfl,-,-,-⟩:=h2.members.opened;have HU:=Lib.hid hu;obtain ⟨U,capu,rfl,-,-,-⟩:=hu.opened;have H2:=Lib.hid h2;have HS:=Lib.hid hs;clear h2 hs hu;obtain ⟨L,hL⟩:∃ L,l.length = L:=⟨_,rfl⟩;have HL:=Lib.hid hL;obtain ⟨T,hT⟩:∃ L,s.ships.length = L:=⟨_,rfl⟩;have HT:=Lib.hid hT;obtain ⟨z,hz⟩:∃ z,(!decide (l.length = s.ships.length)) = z:=⟨_,rfl⟩;have HZ:Hid (((L:Int) != (T:Int)) = z):=Lib.hid (by
  rw [<- hz,hL,hT]
  by_cases h:L = T
  . simp [h]
  . simp [h]; omega)
 have HE1:Hid (∀ (W:World) (u:Value),Q0e W u [s.err,Q1f (Z1t s n) 10,Q1f z 2] -> Calls Tryz.prog 45 #[u] W fun e W'=>e = .returned (.int .i64 (Q5y s n l)) /\ W = W'):=Lib.hid (fun W u h=>by
  have:=first_any W u _ h;rw [<- hz] at this; exact this)
 rw [hL,hT];clear hL hT hz;go_enter Tryz.func40,Tryz.ntmps40;go_wp2_with fail;obtain ⟨W,hWW,k0,HXW,eW⟩:=Q2y w 74 #[.int .i64 s.limit,.slice A T capa,.slice B s.members.length capb];rw [hWW];clear hWW;obtain ⟨gs,hgs⟩:∃ x,w.heap.size = x:=⟨_,rfl⟩;rw [hgs] at k0 ⊢;have K0:=Lib.hid k0;clear k0 hgs eW;have hdr:=(Ext.refl W).drew;have HSE:Hid (∀ W',Ext W W' -> Q0p W' (.agg #[.int .i64 s.limit,.slice A T capa,.slice B s.members.length capb]) s):=Lib.hid (fun W' hW=>⟨_,_,rfl,by rw [<- HT.out]; exact H2.out.ext (HXW.out.trans hW)⟩)
 refine Flow.Q1q [.w,.w,.w,.p,.w,.p,.p,.p,.w,.p,.p,.w,.w,.w,.p] [0,1,2,3,4,5,6,7,8,9,10,11,12,13,14] [[],[0],[],[],[1,2,3],[],[5],[],[7],[8],[6,9],[4,10],[1,4,11],[11,12],[0,1,2,3,4,5,6,7,8,9,10,11,12,13]]
  [.c 0 (.agg #[.int .i64 s.limit,.slice A T capa,.slice B s.members.length capb]),.c 1 (.int .i64 s.err),.c 2 (.agg #[.int .i64 s.limit,.slice A T capa,.slice B s.members.length capb]),.c 3 (.int .i64 n),.c 4 (.int .i64 (Q1f (Z1t s n) 10)),.c 5 (.slice U L capu),.c 6 (.int .i64 ((L:Nat):Int)),.c 7 (.pointer (some ⟨gs,1,none⟩)),.c 8 (.slice A T capa),.c 9 (.int .i64 ((T:Nat):Int)),.c 10 (.bool z),.c 11 (.int .i64 (Q1f z 2)),⟨fun v wz=>(fun v w'=>Q0e w' (v 12) [s.err,Q1f (Z1t s n) 10,Q1f z 2]) v wz,by intro v a b hx h; exact Q0e.ext h hx⟩,.c 13 (.int .i64 (Q5y s n l)),.c 14 (.int .i64 (Q5y s n l))]
  (by kernel_rfl) rfl (by kernel_rfl) ⟨?g0,?g1,?g2,?g3,?g4,?g5,?g6,?g7,?g8,?g9,?g10,?g11,?g12,?g13,?g14,trivial⟩ ?post
 case g0 | g2=>
  intro v w1 hx;intro bb hbb;intro K hK;have o1:bb.eval (.tmp 3) = .pointer (some ⟨gs,0,none⟩):=by rw [hbb]; dsimp only; (try simp (discharger:=decide) only [eval_put_ne]); rfl
  exact Q0x (.tmp 3) _ rfl Tryz.Z6x Tryz.Y2t o1 (K0.out.ext (hdr.trans hx)) rfl (hK _ _ (Ext.refl _) rfl)
 case g1=>
  intro v w1 hx;(repeat intro (zq:v _ = _));intro bb hbb;subst hbb;intro K hK;go_simp;refine Q0f (Q4b w1 _ s (HSE.out w1 (hdr.trans hx)) HS.out) ?_;rintro e w2 ⟨rfl,hx2⟩;exact ⟨_,rfl,hK _ _ hx2 rfl⟩
 case g3 | g5 | g7=>
  intro v w1 hx;intro bb hbb;subst hbb;refine ⟨_,fun w=>?_,rfl⟩;go_simp
 case g4=>
  intro v w1 hx;(repeat intro (zq:v _ = _));intro bb hbb;subst hbb;intro K hK;go_simp;refine Q0f (Y0h w1 _ s n (HSE.out w1 (hdr.trans hx))) ?_;rintro e w2 ⟨rfl,hx2⟩;exact ⟨_,rfl,hK _ _ hx2 rfl⟩
 case g6 | g9=>
  intro v w1 hx;(repeat intro (zq:v _ = _));intro bb hbb;subst hbb;refine ⟨_,fun w=>?_,rfl⟩;go_simp
 case g8=>
  intro v w1 hx;(repeat intro (zq:v _ = _));intro bb hbb;subst hbb;have n0:w1.cell? ⟨gs,1,none⟩ = some (.slice A T capa):=(K0.out.ext (hdr.trans hx)).cell 1;intro K hK;go_simp;exact hK _ _ (Ext.refl _) rfl
 case g10=>
  intro v w1 hx;(repeat intro (zq:v _ = _));intro bb hbb;subst hbb;refine ⟨.bool z,fun w=>?_,rfl⟩;go_simp;exact HZ.out
 case g11=>
  intro v w1 hx;(repeat intro (zq:v _ = _));intro bb hbb;subst hbb;intro K hK;go_simp;refine Q0f (X3o w1 z 2) ?_;rintro e w2 ⟨rfl,rfl⟩;exact ⟨_,rfl,hK _ _ (Ext.refl _) rfl⟩
 case g12=>
  intro v w1 hx;(repeat intro (zq:v _ = _));intro bb hbb;subst hbb;intro K hK;go_simp;exact hK _ _ (Ext.box _ _) (Q2l (l:=[s.err,Q1f (Z1t s n) 10,Q1f z 2]) (by simp))
 case g13=>
  intro v w1 hx (q11:v 11 = _) (q12:(fun v w'=>Q0e w' (v 12) [s.err,Q1f (Z1t s n) 10,Q1f z 2]) v w1);intro bb hbb;subst hbb;intro K hK;go_simp;refine Q0f (HE1.out w1 _ q12) ?_;rintro e w2 ⟨rfl,rfl⟩;exact ⟨_,rfl,hK _ _ (Ext.refl _) rfl⟩
 case g14=>
  intro v w1 hx (q0:v 0 = _) (q1:v 1 = _) (q2:v 2 = _) (q3:v 3 = _) (q4:v 4 = _) (q5:v 5 = _) (q6:v 6 = _) (q7:v 7 = _) (q8:v 8 = _) (q9:v 9 = _) (q10:v 10 = _) (q11:v 11 = _) _ (q13:v 13 = _);intro bb hbb;subst hbb;refine ⟨_,fun w=>?_,rfl⟩;go_simp
 case post =>
  intro v w1 hx;(iterate 12 intro (zq:v _ = _));intro (q12:(fun v w'=>Q0e w' (v 12) [s.err,Q1f (Z1t s n) 10,Q1f z 2]) v w1);(iterate 2 intro (zq:v _ = _));simp only [Flow.All,Flow.acts,Act.put];go_simp;have HX5:=Lib.hid (HXW.out.trans (hdr.trans hx));have HK5:=Lib.hid (K0.out.ext (hdr.trans hx));obtain ⟨w5,rfl⟩:∃ X,X = w1:=⟨_,rfl⟩;obtain ⟨y5,hy5⟩:∃ z,v 12 = z:=⟨_,rfl⟩;rw [hy5];clear hx hdr hy5 q12;(repeat clear zq)
  by_cases he:Q5y s n l = 0
  . obtain ⟨hsm,hlen⟩:=Y8f he
    obtain ⟨hvs,hn0,hn1⟩:=Z7a hsm;have hne:(Q5y s n l != 0) = false:=by simp [he]
    obtain ⟨i,rfl⟩:∃ i:Nat,n = (i:Int):=⟨n.toNat,by omega⟩
    have him:i < s.members.length:=by omega
    have HFR:Hid (Y0i s (i:Int) l = (Q1k s i).Q8n l):=Lib.hid (by unfold Y0i; rw [if_pos he,Int.toNat_natCast])
    have HE0':=Lib.hid he;obtain ⟨E,hE⟩:∃ E,Q5y s (i:Int) l = E:=⟨_,rfl⟩;have HEE:=Lib.hid hE;rw [hE] at hne ⊢;obtain ⟨bm,off,capx,capy,capz,X,Y,Z,hme⟩:=Q4r (H2.out.members.ext HX5.out) him;have hA:=hme.addr;subst hA;have e0:=hme.e0;have e1:=hme.e1;have e2:=hme.e2;have e3:=hme.e3;have e4:=hme.e4;have hT6:=hvs.tides;have HPK:=Lib.hid (Y3p w5 _ _ (Q1k s i) l (hme.mem (Ext.refl _)) (HU.out.ext HX5.out) (by omega) (Z3z hvs him (by omega)))
    rw [HL.out] at HPK;have c2:w5.cell? ⟨gs,2,none⟩ = some (.slice (some ⟨bm,off,none⟩) s.members.length capb):=HK5.out.cell 2;have hiI:(i:Int) < s.members.length:=by omega
    obtain ⟨nm,hnm⟩:∃ x,Q1d s.members i = x:=⟨_,rfl⟩;obtain ⟨wt,hwt⟩:∃ x,Q0h s.members i = x:=⟨_,rfl⟩;obtain ⟨lc,hlc⟩:∃ x,(Q0d s.members i).length = x:=⟨_,rfl⟩;obtain ⟨lo,hlo⟩:∃ x,(Q0n s.members i).length = x:=⟨_,rfl⟩;obtain ⟨li,hli⟩:∃ x,(Q0s s.members i).length = x:=⟨_,rfl⟩;rw [hnm] at e0 HPK;rw [hwt] at e1 HPK;rw [hlc] at e2 HPK;rw [hlo] at e3 HPK;rw [hli] at e4 HPK;clear he hE hvs hn0 hn1 hme hnm hwt hlc hlo hli hsm him hT6;go_wp2_with (go_at_call 49; refine HPK.out.mono ?_; rintro e w6 ⟨x,rfl,h1,hx6⟩);refine bodyPost_ret (results_tmp2 Tryz.results40 _ _ _) rfl ?_;exact ⟨_,by rw [<- HEE.out,HE0'.out]; rfl,by rw [HFR.out]; exact h1,HX5.out.trans hx6⟩
  . have HFR:Hid (Y0i s n l = []):=Lib.hid (if_neg he)
    have hne:(Q5y s n l != 0) = true:=by simp [he]
    clear he;go_wp2;refine bodyPost_ret (results_tmp2 Tryz.results40 _ _ _) rfl ?_;exact ⟨_,rfl,by rw [HFR.out]; exact Go.Tw.Rows.nil _ _ _,HX5.out⟩
end Go.Proofs
namespace Go.Tw
open Go.Ba Go.Proofs
def Y1x:Mem:=⟨⟨#[97]⟩,1,[0,0],[20,40],[10,10]⟩
def J8i:Q0b:=⟨30,[0,0],[Y1x]⟩
theorem Z1x:Y7c Y1x 2:=⟨fun k hk=>by rcases (by omega:k = 0 ∨ k = 1) with rfl | rfl <;> decide,fun k hk=>by rcases (by omega:k = 0 ∨ k = 1) with rfl | rfl <;> decide,by decide⟩
theorem K0p:Z1d (Q5c 30) [0] (Q1i Y1x.outside Y1x.inflow [false,true] 2) 4 = [[20],[0],[10],[10]]:=by
 have h:Y7c Y1x [false,true].length:=Z1x;have a0:=(X2y (lim:=30) h (k:=0) (by decide)).1
 have a1:=X4k (lim:=30) h 1 (by decide)
 have a2:=(X2y (lim:=30) h (k:=1) (by decide)).1
 have a3:=X4k (lim:=30) h 2 (by decide)
 have e:Z1d (Q5c 30) [0] (Q1i Y1x.outside Y1x.inflow [false,true] 2) 4 = [Q3x (Q5c 30) [0] (Q1i Y1x.outside Y1x.inflow [false,true] 2) 1,Q3x (Q5c 30) [0] (Q1i Y1x.outside Y1x.inflow [false,true] 2) 2,Q3x (Q5c 30) [0] (Q1i Y1x.outside Y1x.inflow [false,true] 2) 3,Q3x (Q5c 30) [0] (Q1i Y1x.outside Y1x.inflow [false,true] 2) 4]:=rfl;rw [e];refine congr (congrArg _ (a0.trans (by decide))) (congr (congrArg _ (a1.trans (by decide))) (congr (congrArg _ (a2.trans (by decide))) (congrArg (fun x=>[x]) (a3.trans (by decide)))))
theorem Z6h:Q2x J8i:=⟨by decide,by decide,fun i hi=>by
 have:i = 0:=by have:i < 1:=hi; omega
 subst this;unfold Q9o;decide⟩
end Go.Tw
namespace Go.Proofs
open Go.RowKit Go.Tw Go.Flow Go.Ba
attribute [local go_sem] Oper.semAt_some
theorem Q3y (w:World) :
    Calls Tryz.prog 15 #[] w fun e w'=>e = .returned (.bool true) /\ Ext w w':=by
 go_enter Tryz.func15,Tryz.ntmps15;go_wp2_with fail;have k0:=Blk.made w 3 #[.int .i64 0,.int .i64 0];have x0:=Ext.box w (.cells #[.int .i64 0,.int .i64 0] 3);have es0:(w.alloc (.cells #[.int .i64 0,.int .i64 0] 3)).heap.size = w.heap.size + 1:=by simp
 obtain ⟨X0,hX0⟩:∃ X,w.alloc (.cells #[.int .i64 0,.int .i64 0] 3) = X:=⟨_,rfl⟩;rw [hX0] at k0 x0 es0 ⊢;clear hX0;have k1:=Blk.made X0 3 #[.int .i64 0,.int .i64 0];have x1:=Ext.box X0 (.cells #[.int .i64 0,.int .i64 0] 3);have es1:(X0.alloc (.cells #[.int .i64 0,.int .i64 0] 3)).heap.size = X0.heap.size + 1:=by simp
 obtain ⟨X1,hX1⟩:∃ X,X0.alloc (.cells #[.int .i64 0,.int .i64 0] 3) = X:=⟨_,rfl⟩;rw [hX1] at k1 x1 es1 ⊢;clear hX1;have k2:=Blk.made X1 3 #[.int .i64 20,.int .i64 40];have x2:=Ext.box X1 (.cells #[.int .i64 20,.int .i64 40] 3);have es2:(X1.alloc (.cells #[.int .i64 20,.int .i64 40] 3)).heap.size = X1.heap.size + 1:=by simp
 obtain ⟨X2,hX2⟩:∃ X,X1.alloc (.cells #[.int .i64 20,.int .i64 40] 3) = X:=⟨_,rfl⟩;rw [hX2] at k2 x2 es2 ⊢;clear hX2;have k3:=Blk.made X2 3 #[.int .i64 10,.int .i64 10];have x3:=Ext.box X2 (.cells #[.int .i64 10,.int .i64 10] 3);have es3:(X2.alloc (.cells #[.int .i64 10,.int .i64 10] 3)).heap.size = X2.heap.size + 1:=by simp
 obtain ⟨X3,hX3⟩:∃ X,X2.alloc (.cells #[.int .i64 10,.int .i64 10] 3) = X:=⟨_,rfl⟩;rw [hX3] at k3 x3 es3 ⊢;clear hX3;have k4:=Blk.made X3 90 #[.string ⟨#[97]⟩,.int .i64 1,.slice (some ⟨w.heap.size + 1,0,none⟩) 2 2,.slice (some ⟨w.heap.size + 1 + 1,0,none⟩) 2 2,.slice (some ⟨w.heap.size + 1 + 1 + 1,0,none⟩) 2 2];have x4:=Ext.box X3 (.cells #[.string ⟨#[97]⟩,.int .i64 1,.slice (some ⟨w.heap.size + 1,0,none⟩) 2 2,.slice (some ⟨w.heap.size + 1 + 1,0,none⟩) 2 2,.slice (some ⟨w.heap.size + 1 + 1 + 1,0,none⟩) 2 2] 90);have es4:(X3.alloc (.cells #[.string ⟨#[97]⟩,.int .i64 1,.slice (some ⟨w.heap.size + 1,0,none⟩) 2 2,.slice (some ⟨w.heap.size + 1 + 1,0,none⟩) 2 2,.slice (some ⟨w.heap.size + 1 + 1 + 1,0,none⟩) 2 2] 90)).heap.size = X3.heap.size + 1:=by simp
 obtain ⟨X4,hX4⟩:∃ X,X3.alloc (.cells #[.string ⟨#[97]⟩,.int .i64 1,.slice (some ⟨w.heap.size + 1,0,none⟩) 2 2,.slice (some ⟨w.heap.size + 1 + 1,0,none⟩) 2 2,.slice (some ⟨w.heap.size + 1 + 1 + 1,0,none⟩) 2 2] 90) = X:=⟨_,rfl⟩;rw [hX4] at k4 x4 es4 ⊢;clear hX4;have k5:=Blk.made X4 74 #[.int .i64 30,.slice (some ⟨w.heap.size,0,none⟩) 2 2,.slice (some ⟨w.heap.size + 1 + 1 + 1 + 1,0,none⟩) 1 1];have x5:=Ext.box X4 (.cells #[.int .i64 30,.slice (some ⟨w.heap.size,0,none⟩) 2 2,.slice (some ⟨w.heap.size + 1 + 1 + 1 + 1,0,none⟩) 1 1] 74);have es5:(X4.alloc (.cells #[.int .i64 30,.slice (some ⟨w.heap.size,0,none⟩) 2 2,.slice (some ⟨w.heap.size + 1 + 1 + 1 + 1,0,none⟩) 1 1] 74)).heap.size = X4.heap.size + 1:=by simp
 obtain ⟨X5,hX5⟩:∃ X,X4.alloc (.cells #[.int .i64 30,.slice (some ⟨w.heap.size,0,none⟩) 2 2,.slice (some ⟨w.heap.size + 1 + 1 + 1 + 1,0,none⟩) 1 1] 74) = X:=⟨_,rfl⟩;rw [hX5] at k5 x5 es5 ⊢;clear hX5;have k6:=Blk.made X5 4 #[.bool false,.bool true];have x6:=Ext.box X5 (.cells #[.bool false,.bool true] 4);have es6:(X5.alloc (.cells #[.bool false,.bool true] 4)).heap.size = X5.heap.size + 1:=by simp
 obtain ⟨X6,hX6⟩:∃ X,X5.alloc (.cells #[.bool false,.bool true] 4) = X:=⟨_,rfl⟩;rw [hX6] at k6 x6 es6 ⊢;clear hX6;replace k0:=(((((k0.ext x1).ext x2).ext x3).ext x4).ext x5).ext x6;replace k1:=((((k1.ext x2).ext x3).ext x4).ext x5).ext x6;replace k2:=(((k2.ext x3).ext x4).ext x5).ext x6;replace k3:=((k3.ext x4).ext x5).ext x6;replace k4:=(k4.ext x5).ext x6;replace k5:=k5.ext x6;have e0:X0.heap.size = w.heap.size + 1:=by omega
 have e1:X1.heap.size = w.heap.size + 1 + 1:=by omega
 have e2:X2.heap.size = w.heap.size + 1 + 1 + 1:=by omega
 have e3:X3.heap.size = w.heap.size + 1 + 1 + 1 + 1:=by omega
 have e4:X4.heap.size = w.heap.size + 1 + 1 + 1 + 1 + 1:=by omega
 have e5:X5.heap.size = w.heap.size + 1 + 1 + 1 + 1 + 1 + 1:=by omega
 have e6:X6.heap.size = w.heap.size + 1 + 1 + 1 + 1 + 1 + 1 + 1:=by omega
 rw [e0] at k1;rw [e1] at k2;rw [e2] at k3;rw [e3] at k4;rw [e4] at k5;rw [e5] at k6;have HXW:Hid (Ext w X6):=Lib.hid (Ext.trans (Ext.trans (Ext.trans (Ext.trans (Ext.trans (Ext.trans (x0) x1) x2) x3) x4) x5) x6);have eW:X6.heap.size = w.heap.size + 1 + 1 + 1 + 1 + 1 + 1 + 1:=e6;clear x0 es0 e0 x1 es1 e1 x2 es2 e2 x3 es3 e3 x4 es4 e4 x5 es5 e5 x6 es6 e6;obtain ⟨W,hWW⟩:∃ W,X6 = W:=⟨_,rfl⟩;rw [hWW] at HXW eW ⊢ k0 k1 k2 k3 k4 k5 k6;clear hWW;have hsea:Q0p W (.agg #[.int .i64 30,.slice (some ⟨w.heap.size,0,none⟩) 2 2,.slice (some ⟨w.heap.size + 1 + 1 + 1 + 1,0,none⟩) 1 1]) J8i:=by
  refine ⟨_,_,rfl,⟨Q3l (l:=[0,0]) k0 rfl rfl (by decide),?_⟩⟩
  refine Y5e k4 rfl (by decide) rfl fun i hi=>?_
  have:i = 0:=by have:i < 1:=hi; omega
  subst this;exact ⟨rfl,rfl,Q3l (l:=[0,0]) k1 rfl rfl (by decide),Q3l (l:=[20,40]) k2 rfl rfl (by decide),Q3l (l:=[10,10]) k3 rfl rfl (by decide),J7s _⟩
 have hbl:Q2k W (.slice (some ⟨w.heap.size + 1 + 1 + 1 + 1 + 1 + 1,0,none⟩) 2 2) [false,true]:=by
  refine Y5e (k:=1) k6 rfl (by decide) rfl fun i hi=>?_
  have:i = 0 ∨ i = 1:=by have:i < 2:=hi; omega
  rcases this with rfl | rfl <;> rfl
 have hfol:=Z1z W _ _ J8i 0 [false,true] hsea hbl Z6h;have HFOL:=Lib.hid hfol;clear hsea hbl hfol k0 k1 k2 k3 k4 k5 k6 eW;refine HFOL.out.mono ?_;rintro e w2 ⟨x,rfl,hxi,hx2⟩;have hF:Q5y J8i 0 [false,true] = 0:=by decide
 have hR:Y0i J8i 0 [false,true] = [20,10]:=by decide
 rw [hR] at hxi;rw [hF];have HXI:=Lib.hid hxi;have HX2:=Lib.hid (HXW.out.trans hx2);clear hxi hx2 hF hR HFOL;go_wp2_with fail;refine (X9o _ 30).mono ?_;rintro e w3 ⟨u,rfl,hub,hx3⟩;have HUB:=Lib.hid hub;have HXI3:=Lib.hid (HXI.out.ext hx3);have HX3:=Lib.hid (HX2.out.trans hx3);clear hub hx3;go_wp2_with fail;have k0:=Blk.made w3 3 #[.int .i64 0];have x0:=Ext.box w3 (.cells #[.int .i64 0] 3);have es0:(w3.alloc (.cells #[.int .i64 0] 3)).heap.size = w3.heap.size + 1:=by simp
 obtain ⟨X0,hX0⟩:∃ X,w3.alloc (.cells #[.int .i64 0] 3) = X:=⟨_,rfl⟩;rw [hX0] at k0 x0 es0 ⊢;clear hX0;have k1:=Blk.made X0 3 #[.int .i64 10];have x1:=Ext.box X0 (.cells #[.int .i64 10] 3);have es1:(X0.alloc (.cells #[.int .i64 10] 3)).heap.size = X0.heap.size + 1:=by simp
 obtain ⟨X1,hX1⟩:∃ X,X0.alloc (.cells #[.int .i64 10] 3) = X:=⟨_,rfl⟩;rw [hX1] at k1 x1 es1 ⊢;clear hX1;have k2:=Blk.made X1 3 #[.int .i64 0];have x2:=Ext.box X1 (.cells #[.int .i64 0] 3);have es2:(X1.alloc (.cells #[.int .i64 0] 3)).heap.size = X1.heap.size + 1:=by simp
 obtain ⟨X2,hX2⟩:∃ X,X1.alloc (.cells #[.int .i64 0] 3) = X:=⟨_,rfl⟩;rw [hX2] at k2 x2 es2 ⊢;clear hX2;have k3:=Blk.made X2 3 #[.int .i64 10];have x3:=Ext.box X2 (.cells #[.int .i64 10] 3);have es3:(X2.alloc (.cells #[.int .i64 10] 3)).heap.size = X2.heap.size + 1:=by simp
 obtain ⟨X3,hX3⟩:∃ X,X2.alloc (.cells #[.int .i64 10] 3) = X:=⟨_,rfl⟩;rw [hX3] at k3 x3 es3 ⊢;clear hX3;have k4:=Blk.made X3 3 #[.int .i64 0];have x4:=Ext.box X3 (.cells #[.int .i64 0] 3);have es4:(X3.alloc (.cells #[.int .i64 0] 3)).heap.size = X3.heap.size + 1:=by simp
 obtain ⟨X4,hX4⟩:∃ X,X3.alloc (.cells #[.int .i64 0] 3) = X:=⟨_,rfl⟩;rw [hX4] at k4 x4 es4 ⊢;clear hX4;have k5:=Blk.made X4 49 #[.int .i64 20,.bool true,.slice (some ⟨w3.heap.size + 1,0,none⟩) 1 1,.int .i64 0,.bool true,.slice (some ⟨w3.heap.size + 1 + 1,0,none⟩) 1 1,.int .i64 40,.bool false,.slice (some ⟨w3.heap.size + 1 + 1 + 1,0,none⟩) 1 1,.int .i64 0,.bool false,.slice (some ⟨w3.heap.size + 1 + 1 + 1 + 1,0,none⟩) 1 1];have x5:=Ext.box X4 (.cells #[.int .i64 20,.bool true,.slice (some ⟨w3.heap.size + 1,0,none⟩) 1 1,.int .i64 0,.bool true,.slice (some ⟨w3.heap.size + 1 + 1,0,none⟩) 1 1,.int .i64 40,.bool false,.slice (some ⟨w3.heap.size + 1 + 1 + 1,0,none⟩) 1 1,.int .i64 0,.bool false,.slice (some ⟨w3.heap.size + 1 + 1 + 1 + 1,0,none⟩) 1 1] 49);have es5:(X4.alloc (.cells #[.int .i64 20,.bool true,.slice (some ⟨w3.heap.size + 1,0,none⟩) 1 1,.int .i64 0,.bool true,.slice (some ⟨w3.heap.size + 1 + 1,0,none⟩) 1 1,.int .i64 40,.bool false,.slice (some ⟨w3.heap.size + 1 + 1 + 1,0,none⟩) 1 1,.int .i64 0,.bool false,.slice (some ⟨w3.heap.size + 1 + 1 + 1 + 1,0,none⟩) 1 1] 49)).heap.size = X4.heap.size + 1:=by simp
 obtain ⟨X5,hX5⟩:∃ X,X4.alloc (.cells #[.int .i64 20,.bool true,.slice (some ⟨w3.heap.size + 1,0,none⟩) 1 1,.int .i64 0,.bool true,.slice (some ⟨w3.heap.size + 1 + 1,0,none⟩) 1 1,.int .i64 40,.bool false,.slice (some ⟨w3.heap.size + 1 + 1 + 1,0,none⟩) 1 1,.int .i64 0,.bool false,.slice (some ⟨w3.heap.size + 1 + 1 + 1 + 1,0,none⟩) 1 1] 49) = X:=⟨_,rfl⟩;rw [hX5] at k5 x5 es5 ⊢;clear hX5;replace k0:=((((k0.ext x1).ext x2).ext x3).ext x4).ext x5;replace k1:=(((k1.ext x2).ext x3).ext x4).ext x5;replace k2:=((k2.ext x3).ext x4).ext x5;replace k3:=(k3.ext x4).ext x5;replace k4:=k4.ext x5;have e0:X0.heap.size = w3.heap.size + 1:=by omega
 have e1:X1.heap.size = w3.heap.size + 1 + 1:=by omega
 have e2:X2.heap.size = w3.heap.size + 1 + 1 + 1:=by omega
 have e3:X3.heap.size = w3.heap.size + 1 + 1 + 1 + 1:=by omega
 have e4:X4.heap.size = w3.heap.size + 1 + 1 + 1 + 1 + 1:=by omega
 have e5:X5.heap.size = w3.heap.size + 1 + 1 + 1 + 1 + 1 + 1:=by omega
 rw [e0] at k1;rw [e1] at k2;rw [e2] at k3;rw [e3] at k4;rw [e4] at k5;have HXW:Hid (Ext w3 X5):=Lib.hid (Ext.trans (Ext.trans (Ext.trans (Ext.trans (Ext.trans (x0) x1) x2) x3) x4) x5);have eW:X5.heap.size = w3.heap.size + 1 + 1 + 1 + 1 + 1 + 1:=e5;clear x0 es0 e0 x1 es1 e1 x2 es2 e2 x3 es3 e3 x4 es4 e4 x5 es5 e5;obtain ⟨W,hWW⟩:∃ W,X5 = W:=⟨_,rfl⟩;rw [hWW] at HXW eW ⊢ k0 k1 k2 k3 k4 k5;clear hWW;have hcn:Q2p W (.slice (some ⟨w3.heap.size + 1 + 1 + 1 + 1 + 1,0,none⟩) 4 4) (Q1i Y1x.outside Y1x.inflow [false,true] 2):=by
  refine Y5e k5 rfl (by decide) rfl fun i hi=>?_
  have:i = 0 ∨ i = 1 ∨ i = 2 ∨ i = 3:=by have:i < 4:=hi; omega
  rcases this with rfl | rfl | rfl | rfl
  . exact ⟨rfl,rfl,Q3l (l:=[10]) k1 rfl rfl (by decide)⟩
  . exact ⟨rfl,rfl,Q3l (l:=[0]) k2 rfl rfl (by decide)⟩
  . exact ⟨rfl,rfl,Q3l (l:=[10]) k3 rfl rfl (by decide)⟩
  . exact ⟨rfl,rfl,Q3l (l:=[0]) k4 rfl rfl (by decide)⟩
 have hrun:=Y7r W u _ _ (Q5c 30) [0] (Q1i Y1x.outside Y1x.inflow [false,true] 2) (HUB.out.ext HXW.out) (Q3l (l:=[0]) k0 rfl rfl (by decide)) hcn (Z0h ⟨by decide,by decide⟩) rfl (fun k=>by cases k with | zero=>exact ⟨by decide,by decide⟩ | succ k=>rw [Z8j (V:=[0]) (by simp)]; exact ⟨by decide,by decide⟩) (Y2w (cl:=[false,true]) Z1x) (by decide)
 have HRUN:=Lib.hid hrun;have HXI4:=Lib.hid (HXI3.out.ext HXW.out);have HX4:=Lib.hid (HX3.out.trans HXW.out);clear hcn hrun k0 k1 k2 k3 k4 k5 eW;refine HRUN.out.mono ?_;rintro e w5 ⟨r,er,ll,rfl,hri,hres,hx5⟩;have hok:er = 0 /\ ll = [[20],[0],[10],[10]]:=by
  rcases hres with ⟨h1,h2,-⟩ | ⟨-,-,j,hj,hnf⟩
  . exact ⟨h1,h2.trans K0p⟩
  . have hff:Q3p (Q5c 30) [0] (Q1i Y1x.outside Y1x.inflow [false,true] 2) j = true:=Y8x (cl:=[false,true]) Z1x j hj
    rw [hff] at hnf; cases hnf
 obtain ⟨rfl,rfl⟩:=hok;obtain ⟨R,capr,rfl,-,-,hcr⟩:=hri.opened;obtain ⟨b,off,m0,rfl,-,e0,i0⟩:=hcr 0 (by decide)
 obtain ⟨b1,o1,m1,hA,-,e1,i1⟩:=hcr 1 (by decide)
 cases hA;obtain ⟨b1,o1,m2,hA,-,e2,i2⟩:=hcr 2 (by decide)
 cases hA;obtain ⟨b1,o1,m3,hA,-,e3,i3⟩:=hcr 3 (by decide)
 cases hA;rw [Nat.add_zero] at e0;replace i0:Q0e w5 m0 [20]:=i0;replace i1:Q0e w5 m1 [0]:=i1;replace i2:Q0e w5 m2 [10]:=i2;replace i3:Q0e w5 m3 [10]:=i3;have I0:=Lib.hid i0;have I1:=Lib.hid i1;have I2:=Lib.hid i2;have I3:=Lib.hid i3;have HXI5:=Lib.hid (HXI4.out.ext hx5);have HX5:=Lib.hid (HX4.out.trans hx5);clear hri hres hcr i0 i1 i2 i3 hx5 HRUN;go_wp2_with fail;refine (Q5r _ _ _ [20,10] [20,10] (HXI5.out.ext (Ext.box w5 _)) (Q3l (l:=[20,10]) (Blk.made _ _ _) rfl rfl (by decide))).mono ?_
 rintro e y1 ⟨rfl,hy⟩;rw [decide_eq_true rfl];replace hy:=(Ext.box w5 _).trans hy;replace e0:=hy.cell e0;replace e1:=hy.cell e1;replace e2:=hy.cell e2;replace e3:=hy.cell e3;replace I0:=Lib.hid (I0.out.ext hy);replace I1:=Lib.hid (I1.out.ext hy);replace I2:=Lib.hid (I2.out.ext hy);replace I3:=Lib.hid (I3.out.ext hy);have HY1:=Lib.hid (HX5.out.trans hy);clear hy;go_wp2_with fail;refine (Q5r _ _ _ [20] [20] (I0.out.ext (Ext.box y1 _)) (Q3l (l:=[20]) (Blk.made _ _ _) rfl rfl (by decide))).mono ?_
 rintro e y2 ⟨rfl,hy⟩;rw [decide_eq_true rfl];replace hy:=(Ext.box y1 _).trans hy;replace e1:=hy.cell e1;replace e2:=hy.cell e2;replace e3:=hy.cell e3;replace I1:=Lib.hid (I1.out.ext hy);replace I2:=Lib.hid (I2.out.ext hy);replace I3:=Lib.hid (I3.out.ext hy);have HY2:=Lib.hid (HY1.out.trans hy);clear hy e0;go_wp2_with fail;refine (Q5r _ _ _ [0] [0] (I1.out.ext (Ext.box y2 _)) (Q3l (l:=[0]) (Blk.made _ _ _) rfl rfl (by decide))).mono ?_
 rintro e y3 ⟨rfl,hy⟩;rw [decide_eq_true rfl];replace hy:=(Ext.box y2 _).trans hy;replace e2:=hy.cell e2;replace e3:=hy.cell e3;replace I2:=Lib.hid (I2.out.ext hy);replace I3:=Lib.hid (I3.out.ext hy);have HY3:=Lib.hid (HY2.out.trans hy);clear hy e1;go_wp2_with fail;refine (Q5r _ _ _ [10] [10] (I2.out.ext (Ext.box y3 _)) (Q3l (l:=[10]) (Blk.made _ _ _) rfl rfl (by decide))).mono ?_
 rintro e y4 ⟨rfl,hy⟩;rw [decide_eq_true rfl];replace hy:=(Ext.box y3 _).trans hy;replace e3:=hy.cell e3;replace I3:=Lib.hid (I3.out.ext hy);have HY4:=Lib.hid (HY3.out.trans hy);clear hy e2;go_wp2_with fail;refine (Q5r _ _ _ [10] [10] (I3.out.ext (Ext.box y4 _)) (Q3l (l:=[10]) (Blk.made _ _ _) rfl rfl (by decide))).mono ?_
 rintro e y5 ⟨rfl,hy⟩;rw [decide_eq_true rfl];replace hy:=(Ext.box y4 _).trans hy;have HY5:=Lib.hid (HY4.out.trans hy);clear hy e3;go_wp2;go_ret;exact ⟨rfl,HY5.out⟩
end Go.Proofs
namespace Go.Proofs
open Go.RowKit Go.Tw Go.Flow
attribute [local go_sem] Oper.semAt_some
structure Z6m (x:Plan):Prop where
 w:0 <= x.weight /\ x.weight <= 1000000000
 c:0 <= x.closings /\ x.closings <= 1000000000
 d:0 <= x.delay /\ x.delay <= 1000000000000
 l:x.closed.length <= 10000
theorem Q0u.weaken {α:Type} {w:World} {base base' k:Nat} {e:TypeId} {enc:α -> List Value} {v:Value} {xs:List α} (h:Q0u w base e k enc v xs) (hb:base' <= base):Q0u w base' e k enc v xs:=by
 obtain ⟨h1,h2⟩:=h;refine ⟨h1,?_⟩
 rcases h2 with h2 | ⟨g,cap,cur,hv,hbg,r⟩
 . exact .inl h2
 . exact .inr ⟨g,cap,cur,hv,Nat.le_trans hb hbg,r⟩
theorem X9d {P:Program} {K:Value -> World -> Prop} {o:Oper} {a:Act} {w:World} {f:FuncId} {x:Operand} {ts:Array TypeId} {u:Value} {R:Ending -> World -> Prop} (ho:o.op = .call { callee:=.value (.func f),args:=#[x],argTypes:=ts })
    (he:Enters P f) (hx:a.eval x = u) (h:Calls P f #[u] w R) (hk:∀ e w',R e w' -> ∃ z,e = .returned z /\ K z w'):gives P K ((execOp a.eval o).run P w):=by
 unfold execOp;simp only [ho,resolve,invoke,Sem.run_bind,List.map_toArray,List.map_cons,List.map_nil,hx];go_simp;rw [he];exact Q0f h hk
theorem X9h {α:Type} {P:Program} {K:Value -> World -> Prop} {o:Oper} {a:Act} {w:World} (s x:Operand) (t:TypeId) (ho:o.op = .call { callee:=.builtin .append,args:=#[s,x],argTypes:=#[t,t] })
    (base:Nat) (e:TypeId) (i:TypeInfo) (z:Value) (k bytes:Nat) (ht:P.underlying t = some (.slice e)) (hi:P.info? e = some i) (hz:i.zero = some z) (hsize:i.size = k) (hby:i.bytes = bytes) (hzs:z.cells.size = k) (hk0:0 < k)
    (enc:α -> List Value) (hk:∀ x,(enc x).length = k) (v:Value) (xs:List α) (y:α) (hs:a.eval s = v) (hown:Q0u w base e k enc v xs) (ad:Addr) (c:Nat) (hx:a.eval x = .slice (some ad) 1 c)
    (hnews:∀ j u,(enc y)[j]? = some u -> w.cell? (ad.add j) = some u) (h1:∀ u ∈ enc y,u.oneCell' = true)
    (h63:xs.length + 1 <= 100000) (hb:bytes <= 1000) (hbase:base <= w.heap.size)
    (h:∀ v' w',Q0u w' base e k enc v' (xs ++ [y]) -> w.grownBy w' v.ownBlock -> (v'.ownBlock = v.ownBlock ∨ v'.ownBlock = some w.heap.size) -> K v' w'):gives P K ((execOp a.eval o).run P w):=by
 obtain ⟨v',w',hr,h2,h3,h4,h5⟩:=run_append_own_at (P:=P) w base t o.type e i z k bytes ht hi hz hsize hby hzs hk0 v xs.length (xs.flatMap enc) hown ad 1 c (enc y) (by rw [hk]; omega) hnews h1 (by unfold maxLen; omega) (by
     have:(xs.length + 1) * bytes <= 100000 * 1000:=Nat.mul_le_mul h63 hb;omega) hbase
 unfold execOp;simp only [ho,resolve,invoke,builtin,Sem.run_bind,Sem.run_pure,Result.andThen_ok,List.map_toArray,List.map_cons,List.map_nil,hs,hx,hr];exact h v' w' (Q0u.snoc h2) h3 h5
theorem X9j (w:World) (A B:Option Addr) (n c m d:Nat):(Instr.buildSlice 307 2 #[(0,.slice A n c),(1,.slice B m d)]).run Tryz.prog w = .ok (.slice (some ⟨w.heap.size,0,none⟩) 2 2) (w.alloc (.cells #[.slice A n c,.slice B m d] 149)):=by kernel_rfl
theorem Q7y {K:Value -> World -> Prop} {o:Oper} {a:Act} {w:World} (T E:TypeId) (x y:Operand) (ho:o.op = .buildSlice T 2 #[(0,x),(1,y)]) {u v:Value} (hx:a.eval x = u) (hy:a.eval y = v) (hr:(Instr.buildSlice T 2 #[(0,u),(1,v)]).run Tryz.prog w = .ok (.slice (some ⟨w.heap.size,0,none⟩) 2 2) (w.alloc (.cells #[u,v] E)))
    (h:K (.slice (some ⟨w.heap.size,0,none⟩) 2 2) (w.alloc (.cells #[u,v] E))):gives Tryz.prog K ((execOp a.eval o).run Tryz.prog w):=by
 unfold execOp;simp only [ho,hx,hy,List.map_toArray,List.map_cons,List.map_nil,Sem.run_bind,hr,Result.andThen_ok,Sem.run_pure];exact h
def X1b (ps qs0:List Plan) (k:Nat):List Plan:=(ps.take k).flatMap fun x=>qs0.map (both x)
def X1h (x:Plan) (qs0:List Plan) (j:Nat):List Plan:=(qs0.take j).map (both x)
theorem Y0m {ps qs0:List Plan} {k:Nat} {x:Plan} (h:ps[k]? = some x):X1b ps qs0 (k + 1) = X1b ps qs0 k ++ X1h x qs0 qs0.length:=by
 obtain ⟨hk,rfl⟩:=List.getElem?_eq_some_iff.1 h;unfold X1b X1h;rw [List.take_succ_eq_append_getElem hk,List.flatMap_append,List.flatMap_singleton,List.take_length]
theorem Z3p {x:Plan} {qs0:List Plan} {j:Nat} {y:Plan} (h:qs0[j]? = some y):X1h x qs0 (j + 1) = X1h x qs0 j ++ [both x y]:=by
 obtain ⟨hk,rfl⟩:=List.getElem?_eq_some_iff.1 h;unfold X1h;rw [List.take_succ_eq_append_getElem hk,List.map_append]; rfl
theorem Y3a (ps qs0:List Plan) (k:Nat) (hk:k <= ps.length):(X1b ps qs0 k).length = k * qs0.length:=by
 induction k with
 | zero=>simp [X1b]
 | succ k ih =>
   rw [Y0m (List.getElem?_eq_getElem hk),List.length_append,ih (by omega),Nat.succ_mul]
   simp [X1h]
theorem Z7o (ps qs0:List Plan):X8r (X1b ps qs0 ps.length) = together ps qs0:=by unfold X1b together; rw [List.take_length]
theorem Q8d {w:World} {B:Nat} {v:Value} {ps:List PV} (h:Q0u w B 151 4 Q2o v ps):∃ A cv,v = .slice A ps.length cv /\ Hid (∀ j (hj:j < ps.length),∃ gb,A = some ⟨gb,0,none⟩ /\ ∀ i,i < 4 -> w.cell? ⟨gb,j * 4 + i,none⟩ = (Q2o ps[j])[i]?):=by
 rcases OwnP.cases h with ⟨rfl,h0⟩ | ⟨gb,cap,cur,rfl,_,hb,_,_,_,htk⟩
 . exact ⟨none,0,by rw [h0]; rfl,Lib.hid (fun j hj=>by rw [h0] at hj; simp at hj)⟩
 . exact ⟨_,cap,rfl,Lib.hid (fun j hj=>⟨gb,rfl,fun i hi=>X4h hb htk hj hi⟩)⟩
theorem Y9n (w:World) (B1 B2:Nat) (va vb:Value) (ps qs0:List PV) (ha:Q0u w B1 151 4 Q2o va ps) (hb:Q0u w B2 151 4 Q2o vb qs0) (hca:Q0o w ps) (hcb:Q0o w qs0) (hta:∀ q ∈ ps,Z6m q.1) (htb:∀ q ∈ qs0,Z6m q.1)
    (hlen:ps.length * qs0.length <= 80000) (hla:ps.length <= 80000) (hlb:qs0.length <= 80000) :
    Calls Tryz.prog 159 #[va,vb] w fun e w'=>∃ v' qs,e = .returned v' /\ Q0u w' w.heap.size 151 4 Q2o v' qs /\ Q0o w' qs /\ qs.map (·.1) = together (ps.map (·.1)) (qs0.map (·.1)) /\ Ext w w':=by
 obtain ⟨i0,hi,hz0,hz1,hz2⟩:=info_parts Tryz.Y9k;have HCA:=Lib.hid hca;have HCB:=Lib.hid hcb;have HTA:=Lib.hid hta;have HTB:=Lib.hid htb;obtain ⟨A,cv,hsh,HCELL⟩:=Q8d ha;subst hsh;obtain ⟨B,dv,hsh,HDELL⟩:=Q8d hb;subst hsh;obtain ⟨L,hL⟩:∃ L,ps.length = L:=⟨_,rfl⟩;obtain ⟨M,hM⟩:∃ M,qs0.length = M:=⟨_,rfl⟩;have HL:=Lib.hid hL;have HM:=Lib.hid hM;rw [hL] at hlen hla ⊢;rw [hM] at hlen hlb ⊢;have HLEN:=Lib.hid hlen;have HALL:=Lib.hid (Z7o (ps.map (·.1)) (qs0.map (·.1)));clear ha hb hca hcb hta htb hL hM hlen;go_enter Tryz.func159,Tryz.ntmps159;go_wp2
 go_loopw [5,12] (fun o i wr=>∃ (k:Nat) (qs:List PV),k <= L /\ i = .int .i64 k /\ Q0u wr w.heap.size 151 4 Q2o o qs /\ Q0o wr qs /\ qs.map (·.1) = X1b (ps.map (·.1)) (qs0.map (·.1)) k /\ Ext w wr) (fun _ i _=>L - (intOf i).toNat)
 case atStart=>exact ⟨0,[],Nat.zero_le _,rfl,Q0u.nil _ _ _ _ _,Q0o.nil _,rfl,Ext.refl _⟩
 case round =>
  obtain ⟨k,qs,hk,rfl,hown,hcr,hun,hx⟩:=hrel;have HUN:=Lib.hid hun;have HX:=Lib.hid hx;have HOW:=Lib.hid hown;have HCR:=Lib.hid hcr;have HQL:Hid (qs.length = k * M):=Lib.hid (by
   have:=congrArg List.length hun;rw [List.length_map,Y3a _ _ _ (by rw [List.length_map,HL.out]; exact hk),List.length_map,HM.out] at this
   exact this)
  by_cases hlt:k < L
  . have hkp:k < ps.length:=by rw [HL.out]; exact hlt
    have hkI:(k:Int) < L:=by omega
    obtain ⟨gb,rfl,hcell⟩:=HCELL.out k hkp;have e0:=hx.cell (hcell 0 (by omega))
    have e1:=hx.cell (hcell 1 (by omega))
    have e2:=hx.cell (hcell 2 (by omega))
    have e3:=hx.cell (hcell 3 (by omega))
    obtain ⟨A4,n4,c4,hsl⟩:=HCA.out.shape (List.getElem_mem hkp);have hpk:(ps.map (·.1))[k]? = some ps[k].1:=by rw [List.getElem?_map,List.getElem?_eq_getElem hkp]; rfl
    have hcl:=HCA.out ps[k] (List.getElem_mem hkp);have htm:=HTA.out ps[k] (List.getElem_mem hkp);obtain ⟨qk,hqke⟩:∃ z,ps[k] = z:=⟨_,rfl⟩;rw [hqke] at e0 e1 e2 e3 hsl hcl hpk htm;obtain ⟨x,xv⟩:=qk;replace hsl:xv = .slice A4 n4 c4:=hsl;subst hsl;have HST:=Lib.hid (Y0m (qs0:=qs0.map (·.1)) hpk);rw [Nat.add_zero] at e0;have HCL:=Lib.hid hcl;have HTM:Hid (Z6m x):=Lib.hid htm;obtain ⟨x1,hx1⟩:∃ z,x.weight = z:=⟨_,rfl⟩;obtain ⟨x2,hx2⟩:∃ z,x.closings = z:=⟨_,rfl⟩;obtain ⟨x3,hx3⟩:∃ z,x.delay = z:=⟨_,rfl⟩;have HPX:=Lib.hid (show x.weight = x1 /\ x.closings = x2 /\ x.delay = x3 from ⟨hx1,hx2,hx3⟩)
    have hbox:=Ext.box wr (.cells #[.int .i64 x1,.int .i64 x2,.int .i64 x3,.slice A4 n4 c4] 151);have K3:=Blk.made wr 151 #[.int .i64 x1,.int .i64 x2,.int .i64 x3,.slice A4 n4 c4];replace e0:wr.cell? ⟨gb,k * 4,none⟩ = some (.int .i64 x1):=by rw [<- hx1]; exact e0
    replace e1:wr.cell? ⟨gb,k * 4 + 1,none⟩ = some (.int .i64 x2):=by rw [<- hx2]; exact e1
    replace e2:wr.cell? ⟨gb,k * 4 + 2,none⟩ = some (.int .i64 x3):=by rw [<- hx3]; exact e2
    replace e3:wr.cell? ⟨gb,k * 4 + 3,none⟩ = some (.slice A4 n4 c4):=e3;have HXB:=Lib.hid hbox;have HK3:=Lib.hid K3;clear hcell hqke hx1 hx2 hx3 hbox K3 hown hcr hun hx hcl htm hpk hkp
    go_light
    go_wp2;obtain ⟨w5,hw5⟩:∃ z,wr.alloc (.cells #[.int .i64 x1,.int .i64 x2,.int .i64 x3,.slice A4 n4 c4] 151) = z:=⟨_,rfl⟩;rw [hw5] at HXB HK3 ⊢;obtain ⟨g7,hg7⟩:∃ z,wr.heap.size = z:=⟨_,rfl⟩;have HG7:=Lib.hid hg7;rw [hg7] at HK3 ⊢;have HNE:=Lib.hid (fun (b:Nat) hb=>(OwnP.Q9y HOW.out b hb).2.1);rw [hg7] at HNE;clear hw5 hg7 e0 e1 e2 e3
    go_loopw [5,18] (fun o j wq=>∃ (n:Nat) (zs:List PV),n <= M /\ j = .int .i64 n /\ Q0u wq w.heap.size 151 4 Q2o o zs /\ Q0o wq zs /\ zs.map (·.1) = X1b (ps.map (·.1)) (qs0.map (·.1)) k ++ X1h x (qs0.map (·.1)) n /\ Ext w wq /\ Blk wq g7 151 #[.int .i64 x1,.int .i64 x2,.int .i64 x3,.slice A4 n4 c4] /\ some g7 ≠ o.ownBlock) (fun _ j _=>M - (intOf j).toNat)
    case atStart=>exact ⟨0,qs,Nat.zero_le _,rfl,HOW.out.below HXB.out,HCR.out.ext HXB.out,by rw [HUN.out]; simp [X1h],HX.out.trans HXB.out,HK3.out,fun e=>by have:=HNE.out _ e.symm; omega⟩
    case round =>
     obtain ⟨n,zs,hn,rfl,hown,hcr,hun,hx,hb7,hne7⟩:=hrel;have HUN2:=Lib.hid hun;have HXW:=Lib.hid hx;have HK7:=Lib.hid hb7;have HNE7:=Lib.hid hne7;clear hb7 hne7;have HOW2:=Lib.hid hown;have HCR2:=Lib.hid hcr;have HZL:Hid (zs.length = k * M + n):=Lib.hid (by
      have:=congrArg List.length hun;rw [List.length_map,List.length_append,Y3a _ _ _ (by rw [List.length_map,HL.out]; exact hk),List.length_map,HM.out] at this
      rw [this]; unfold X1h; rw [List.length_map,List.length_take,List.length_map,HM.out]; omega)
     by_cases hnl:n < M
     . have hnp:n < qs0.length:=by rw [HM.out]; exact hnl
       have hnI:(n:Int) < M:=by omega
       obtain ⟨gc,rfl,hcell⟩:=HDELL.out n hnp;have e0:=HXW.out.cell (hcell 0 (by omega))
       have e1:=HXW.out.cell (hcell 1 (by omega))
       have e2:=HXW.out.cell (hcell 2 (by omega))
       have e3:=HXW.out.cell (hcell 3 (by omega))
       obtain ⟨B4,m4,d4,hsl⟩:=HCB.out.shape (List.getElem_mem hnp);have hpk:(qs0.map (·.1))[n]? = some qs0[n].1:=by rw [List.getElem?_map,List.getElem?_eq_getElem hnp]; rfl
       have hcl:=HCB.out qs0[n] (List.getElem_mem hnp);have htm:=HTB.out qs0[n] (List.getElem_mem hnp);obtain ⟨qk,hqke⟩:∃ z,qs0[n] = z:=⟨_,rfl⟩;rw [hqke] at e0 e1 e2 e3 hsl hcl hpk htm;obtain ⟨y,yv⟩:=qk;replace hsl:yv = .slice B4 m4 d4:=hsl;subst hsl;obtain ⟨Ao,co,hos,-⟩:=hown.shape;subst hos;have HST2:=Lib.hid (Z3p (x:=x) hpk);rw [Nat.add_zero] at e0;have HDL:=Lib.hid hcl;have HTN:Hid (Z6m y):=Lib.hid htm;obtain ⟨y1,hy1⟩:∃ z,y.weight = z:=⟨_,rfl⟩;obtain ⟨y2,hy2⟩:∃ z,y.closings = z:=⟨_,rfl⟩;obtain ⟨y3,hy3⟩:∃ z,y.delay = z:=⟨_,rfl⟩;have HPY:=Lib.hid (show y.weight = y1 /\ y.closings = y2 /\ y.delay = y3 from ⟨hy1,hy2,hy3⟩)
       replace e0:wr.cell? ⟨gc,n * 4,none⟩ = some (.int .i64 y1):=by rw [<- hy1]; exact e0
       replace e1:wr.cell? ⟨gc,n * 4 + 1,none⟩ = some (.int .i64 y2):=by rw [<- hy2]; exact e1
       replace e2:wr.cell? ⟨gc,n * 4 + 2,none⟩ = some (.int .i64 y3):=by rw [<- hy3]; exact e2
       replace e3:wr.cell? ⟨gc,n * 4 + 3,none⟩ = some (.slice B4 m4 d4):=e3;have hbox:=Ext.box wr (.cells #[.int .i64 y1,.int .i64 y2,.int .i64 y3,.slice B4 m4 d4] 151);have K3:=Blk.made wr 151 #[.int .i64 y1,.int .i64 y2,.int .i64 y3,.slice B4 m4 d4];have HXC:=Lib.hid hbox;have HK4:=Lib.hid K3;have hw1:IntKind.i64.wrap (x1 + y1) = x1 + y1:=Q2q _ (by have:=HTM.out.w; have:=HTN.out.w; have:=HPX.out; have:=HPY.out; omega) (by have:=HTM.out.w; have:=HTN.out.w; have:=HPX.out; have:=HPY.out; omega)
       have hw2:IntKind.i64.wrap (x2 + y2) = x2 + y2:=Q2q _ (by have:=HTM.out.c; have:=HTN.out.c; have:=HPX.out; have:=HPY.out; omega) (by have:=HTM.out.c; have:=HTN.out.c; have:=HPX.out; have:=HPY.out; omega)
       have hw3:IntKind.i64.wrap (x3 + y3) = x3 + y3:=Q2q _ (by have:=HTM.out.d; have:=HTN.out.d; have:=HPX.out; have:=HPY.out; omega) (by have:=HTM.out.d; have:=HTN.out.d; have:=HPX.out; have:=HPY.out; omega)
       clear hcell hqke hy1 hy2 hy3 hbox K3 hown hcr hun hx hcl htm hpk hnp
       go_light
       go_wp2;obtain ⟨wb,hwb⟩:∃ z,wr.alloc (.cells #[.int .i64 y1,.int .i64 y2,.int .i64 y3,.slice B4 m4 d4] 151) = z:=⟨_,rfl⟩;rw [hwb] at HXC HK4 ⊢;obtain ⟨g9,hg9⟩:∃ z,wr.heap.size = z:=⟨_,rfl⟩;rw [hg9] at HK4 ⊢;have HB7:Hid (Blk wb g7 151 #[.int .i64 x1,.int .i64 x2,.int .i64 x3,.slice A4 n4 c4]):=Lib.hid (HK7.out.ext HXC.out);have HOB:=Lib.hid (HOW2.out.below HXC.out);have HCB2:=Lib.hid (HCR2.out.ext HXC.out);have HSA:Hid (Q0i wb 0 9 .string (.slice A4 n4 c4) x.closed):=Lib.hid (HCL.out.below (HXW.out.trans HXC.out));have HSB:Hid (Q0i wb 0 9 .string (.slice B4 m4 d4) y.closed):=Lib.hid (HDL.out.below (HXW.out.trans HXC.out));have HSW:Hid (w.heap.size <= wb.heap.size):=Lib.hid (by have:=HXW.out.size; have:=HXC.out.size; omega)
       have HCC:=Lib.hid (fun (W:World) g hB h1 h2=>Y0d W g 149 (.slice A4 n4 c4) (.slice B4 m4 d4) 0 0 x.closed y.closed hB h1 h2 (by have:=HTM.out.l; have:=HTN.out.l; omega))
       have HENT:=Lib.hid (enters_of (P:=Tryz.prog) Tryz.func181 (by kernel_rfl) rfl)
       have HNWS:Hid (∀ (W:World) gn V,Blk W gn 151 #[.int .i64 (x1 + y1),.int .i64 (x2 + y2),.int .i64 (x3 + y3),V] -> ∀ j u,(Q2o (both x y,V))[j]? = some u -> W.cell? ((⟨gn,0,none⟩:Addr).add j) = some u):=Lib.hid (fun W gn V hb=>by unfold Q2o both; dsimp only; rw [HPX.out.1,HPX.out.2.1,HPX.out.2.2,HPY.out.1,HPY.out.2.1,HPY.out.2.2]; exact Q5k hb)
       have HONE:Hid (∀ A n c,∀ u ∈ Q2o (both x y,.slice A n c),u.oneCell' = true):=Lib.hid (fun A n c=>by unfold Q2o; simp [Value.oneCell'])
       have HLW:Hid (zs.length + 1 <= 100000):=Lib.hid (by
        rw [HZL.out];have h1:(k + 1) * M <= L * M:=Nat.mul_le_mul_right _ hlt;have h2:=HLEN.out;rw [Nat.succ_mul] at h1;omega)
       have hdr:=(Ext.refl wb).drew;clear hwb hg9 e0 e1 e2 e3;refine Flow.Q4c [.p,.p,.w,.p,.w,.p,.p,.p,.w,.p,.p,.w,.p,.p,.p,.w,.p,.p,.w,.p,.p,.p,.w,.p,.w,.w,.w,.p,.w,.last,.last] [0,1,2,3,4,5,6,7,8,9,10,11,12,13,14,15,16,17,18,19,20,21,22,23,24,25,26,27,28,29,30] [[],[],[1],[],[3],[1,2,3,4],[],[6],[6,7],[],[9],[9,10],[6,7,8,9,10,11],[],[13],[13,14],[],[16],[16,17],[13,14,15,16,17,18],[6,7,8,9,10,11,12,13,14,15,16,17,18,19],[],[21],[],[23],[21,22,23,24],[21,22,23,24,25],[1,2,3,4,5,6,7,8,9,10,11,12,13,14,15,16,17,18,19,20,21,22,23,24,25,26],[1,2,3,4,5,6,7,8,9,10,11,12,13,14,15,16,17,18,19,20,21,22,23,24,25,26,27],[0,1,2,3,4,5,6,7,8,9,10,11,12,13,14,15,16,17,18,19,20,21,22,23,24,25,26,27,28],[0,1,2,3,4,5,6,7,8,9,10,11,12,13,14,15,16,17,18,19,20,21,22,23,24,25,26,27,28,29]] [29,30]
        [.c 0 (.slice Ao zs.length co),.c 1 (.pointer (some ⟨g7,0,none⟩)),.c 2 (.int .i64 x1),.c 3 (.pointer (some ⟨g9,0,none⟩)),.c 4 (.int .i64 y1),.c 5 (.int .i64 (x1 + y1)),.c 6 (.pointer (some ⟨g7,1,none⟩)),.c 7 (.pointer (some ⟨g7,1,none⟩)),.c 8 (.int .i64 x2),.c 9 (.pointer (some ⟨g9,1,none⟩)),.c 10 (.pointer (some ⟨g9,1,none⟩)),.c 11 (.int .i64 y2),.c 12 (.int .i64 (x2 + y2)),.c 13 (.pointer (some ⟨g7,1,none⟩)),.c 14 (.pointer (some ⟨g7,2,none⟩)),.c 15 (.int .i64 x3),.c 16 (.pointer (some ⟨g9,1,none⟩)),.c 17 (.pointer (some ⟨g9,2,none⟩)),.c 18 (.int .i64 y3),.c 19 (.int .i64 (x3 + y3)),.c 20 (.agg #[.int .i64 (x2 + y2),.int .i64 (x3 + y3)]),.c 21 (.pointer (some ⟨g7,3,none⟩)),.c 22 (.slice A4 n4 c4),.c 23 (.pointer (some ⟨g9,3,none⟩)),.c 24 (.slice B4 m4 d4),⟨fun v wz=>(fun v w'=>∃ gn,v 25 = .slice (some ⟨gn,0,none⟩) 2 2 /\ Blk w' gn 149 #[.slice A4 n4 c4,.slice B4 m4 d4]) v wz,by rintro v a b hx ⟨gn,h1,h2⟩; exact ⟨gn,h1,h2.ext hx⟩⟩,⟨fun v wz=>(fun v w'=>∃ A n c,v 26 = .slice A n c /\ Q0i w' 0 9 .string (.slice A n c) (x.closed ++ y.closed)) v wz,by rintro v a b hx ⟨A,n,c,h1,h2⟩; exact ⟨A,n,c,h1,h2.below hx⟩⟩,.is 27 (fun v=>.agg #[.int .i64 (x1 + y1),.int .i64 (x2 + y2),.int .i64 (x3 + y3),v 26]),⟨fun v wz=>(fun v w'=>∃ gn,v 28 = .slice (some ⟨gn,0,none⟩) 1 1 /\ Blk w' gn 151 #[.int .i64 (x1 + y1),.int .i64 (x2 + y2),.int .i64 (x3 + y3),v 26]) v wz,by rintro v a b hx ⟨gn,h1,h2⟩; exact ⟨gn,h1,h2.ext hx⟩⟩,.none,.none]
        [fun v w1 w'=>Q0u w' w.heap.size 151 4 Q2o (v 29) (zs ++ [(both x y,v 26)]) /\ w1.grownBy w' (Value.slice Ao zs.length co).ownBlock /\ ((v 29).ownBlock = (Value.slice Ao zs.length co).ownBlock ∨ (v 29).ownBlock = some w1.heap.size),fun v w1 w'=>v 30 = v 29 /\ Q0u w' w.heap.size 151 4 Q2o (v 29) (zs ++ [(both x y,v 26)]) /\ w1.grownBy w' (Value.slice Ao zs.length co).ownBlock /\ ((v 29).ownBlock = (Value.slice Ao zs.length co).ownBlock ∨ (v 29).ownBlock = some w1.heap.size)] (by kernel_rfl) rfl (by kernel_rfl) ⟨?g0,?g1,?g2,?g3,?g4,?g5,?g6,?g7,?g8,?g9,?g10,?g11,?g12,?g13,?g14,?g15,?g16,?g17,?g18,?g19,?g20,?g21,?g22,?g23,?g24,?g25,?g26,?g27,?g28,?g29,?g30,trivial⟩ ?post
       case g0 | g1 | g3 | g6 | g9 | g13 | g16 | g21 | g23=>
        intro v w1 hx;intro bb hbb;subst hbb;refine ⟨_,fun w=>?_,rfl⟩;go_simp
       case g2 | g4 | g8 | g11 | g15 | g18 | g22 | g24=>
        intro v w1 hx;(repeat intro (zq:v _ = _));intro bb hbb;subst hbb;have zz0:w1.cell? ⟨g7,0,none⟩ = some (.int .i64 x1):=(HB7.out.ext (hdr.trans hx)).cell 0;have zz1:w1.cell? ⟨g9,0,none⟩ = some (.int .i64 y1):=(HK4.out.ext (hdr.trans hx)).cell 0;have zz2:w1.cell? ⟨g7,1,none⟩ = some (.int .i64 x2):=(HB7.out.ext (hdr.trans hx)).cell 1;have zz3:w1.cell? ⟨g9,1,none⟩ = some (.int .i64 y2):=(HK4.out.ext (hdr.trans hx)).cell 1;have zz4:w1.cell? ⟨g7,2,none⟩ = some (.int .i64 x3):=(HB7.out.ext (hdr.trans hx)).cell 2;have zz5:w1.cell? ⟨g9,2,none⟩ = some (.int .i64 y3):=(HK4.out.ext (hdr.trans hx)).cell 2;have zz6:w1.cell? ⟨g7,3,none⟩ = some (.slice A4 n4 c4):=(HB7.out.ext (hdr.trans hx)).cell 3;have zz7:w1.cell? ⟨g9,3,none⟩ = some (.slice B4 m4 d4):=(HK4.out.ext (hdr.trans hx)).cell 3;intro K hK;go_simp;exact hK _ _ (Ext.refl _) rfl
       case g5 | g7 | g10 | g12 | g14 | g17 | g19 | g20=>
        intro v w1 hx;(repeat intro (zq:v _ = _));intro bb hbb;subst hbb;refine ⟨_,fun w=>?_,rfl⟩;go_simp
       case g25=>
        intro v w1 hx;(repeat intro (zq:v _ = _));intro bb hbb;intro K hK;have o1:bb.eval (.tmp 44) = .slice A4 n4 c4:=by rw [hbb]; dsimp only; (try simp (discharger:=decide) only [eval_put_ne]); rw [Q0a (by simp only [size_put]; exact (by decide:44 < 56))]; assumption
        have o2:bb.eval (.tmp 46) = .slice B4 m4 d4:=by rw [hbb]; dsimp only; (try simp (discharger:=decide) only [eval_put_ne]); rw [Q0a (by simp only [size_put]; exact (by decide:46 < 56))]; assumption
        exact Q7y 307 149 (.tmp 44) (.tmp 46) rfl o1 o2 (X9j w1 _ _ _ _ _ _) (hK _ _ (Ext.box _ _) ⟨_,rfl,Blk.made _ _ _⟩)
       case g26=>
        intro v w1 hx (q21:v 21 = _) (q22:v 22 = _) (q23:v 23 = _) (q24:v 24 = _) (q25:(fun v w'=>∃ gn,v 25 = .slice (some ⟨gn,0,none⟩) 2 2 /\ Blk w' gn 149 #[.slice A4 n4 c4,.slice B4 m4 d4]) v w1);intro bb hbb;intro K hK;obtain ⟨gn,e25,hb25⟩:=q25;have o1:bb.eval (.tmp 47) = .slice (some ⟨gn,0,none⟩) 2 2:=by rw [hbb]; dsimp only; (try simp (discharger:=decide) only [eval_put_ne]); rw [Q0a (by simp only [size_put]; exact (by decide:47 < 56))]; exact e25
        have hxx:=hdr.trans hx;refine X9d rfl HENT.out o1 (HCC.out w1 gn hb25 (HSA.out.below hxx) (HSB.out.below hxx)) ?_;rintro e w2 ⟨z,rfl,h1,h2⟩;obtain ⟨A,c,rfl,-⟩:=h1.shape;exact ⟨_,rfl,hK _ _ h2 ⟨A,_,c,rfl,h1.weaken (Nat.zero_le _)⟩⟩
       case g27=>
        intro v w1 hx (q1:v 1 = _) (q2:v 2 = _) (q3:v 3 = _) (q4:v 4 = _) (q5:v 5 = _) (q6:v 6 = _) (q7:v 7 = _) (q8:v 8 = _) (q9:v 9 = _) (q10:v 10 = _) (q11:v 11 = _) (q12:v 12 = _) (q13:v 13 = _) (q14:v 14 = _) (q15:v 15 = _) (q16:v 16 = _) (q17:v 17 = _) (q18:v 18 = _) (q19:v 19 = _) (q20:v 20 = _) (q21:v 21 = _) (q22:v 22 = _) (q23:v 23 = _) (q24:v 24 = _) _ (q26:(fun v w'=>∃ A n c,v 26 = .slice A n c /\ Q0i w' 0 9 .string (.slice A n c) (x.closed ++ y.closed)) v w1);intro bb hbb;obtain ⟨A,n,c,e26,h26⟩:=q26;have o1:bb.eval (.tmp 27) = .int .i64 (x1 + y1):=by rw [hbb]; dsimp only; (try simp (discharger:=decide) only [eval_put_ne]); rw [Q0a (by simp only [size_put]; exact (by decide:27 < 56))]; exact q5
        have o2:bb.eval (.tmp 42) = .agg #[.int .i64 (x2 + y2),.int .i64 (x3 + y3)]:=by rw [hbb]; dsimp only; (try simp (discharger:=decide) only [eval_put_ne]); rw [Q0a (by simp only [size_put]; exact (by decide:42 < 56))]; exact q20
        have o3:bb.eval (.tmp 48) = .slice A n c:=by rw [hbb]; dsimp only; (try simp (discharger:=decide) only [eval_put_ne]); rw [Q0a (by simp only [size_put]; exact (by decide:48 < 56))]; exact e26
        refine ⟨.agg #[.int .i64 (x1 + y1),.int .i64 (x2 + y2),.int .i64 (x3 + y3),v 26],fun w=>?_,rfl⟩;rw [e26];unfold execOp;simp only [List.map_toArray,List.map_cons,List.map_nil,o1,o2,o3];clear o1 o2 o3 hbb;go_simp
       case g28=>
        intro v w1 hx (q1:v 1 = _) (q2:v 2 = _) (q3:v 3 = _) (q4:v 4 = _) (q5:v 5 = _) (q6:v 6 = _) (q7:v 7 = _) (q8:v 8 = _) (q9:v 9 = _) (q10:v 10 = _) (q11:v 11 = _) (q12:v 12 = _) (q13:v 13 = _) (q14:v 14 = _) (q15:v 15 = _) (q16:v 16 = _) (q17:v 17 = _) (q18:v 18 = _) (q19:v 19 = _) (q20:v 20 = _) (q21:v 21 = _) (q22:v 22 = _) (q23:v 23 = _) (q24:v 24 = _) _ (q26:(fun v w'=>∃ A n c,v 26 = .slice A n c /\ Q0i w' 0 9 .string (.slice A n c) (x.closed ++ y.closed)) v w1) (q27:v 27 = .agg #[.int .i64 (x1 + y1),.int .i64 (x2 + y2),.int .i64 (x3 + y3),v 26]);intro bb hbb;intro K hK;obtain ⟨A,n,c,e26,h26⟩:=q26;have o1:bb.eval (.tmp 49) = .agg #[.int .i64 (x1 + y1),.int .i64 (x2 + y2),.int .i64 (x3 + y3),.slice A n c]:=by rw [hbb]; dsimp only; (try simp (discharger:=decide) only [eval_put_ne]); rw [Q0a (by simp only [size_put]; exact (by decide:49 < 56))]; rw [q27,e26]
        exact Q3r 152 151 (.tmp 49) rfl o1 (Y0q w1 _ _ _ _ _ _) (hK _ _ (Ext.box _ _) ⟨_,rfl,by show Blk _ _ _ #[_,_,_,v 26]; rw [e26]; exact Blk.made _ _ _⟩)
       case g29=>
        intro v w1 hx (q0:v 0 = _) (q1:v 1 = _) (q2:v 2 = _) (q3:v 3 = _) (q4:v 4 = _) (q5:v 5 = _) (q6:v 6 = _) (q7:v 7 = _) (q8:v 8 = _) (q9:v 9 = _) (q10:v 10 = _) (q11:v 11 = _) (q12:v 12 = _) (q13:v 13 = _) (q14:v 14 = _) (q15:v 15 = _) (q16:v 16 = _) (q17:v 17 = _) (q18:v 18 = _) (q19:v 19 = _) (q20:v 20 = _) (q21:v 21 = _) (q22:v 22 = _) (q23:v 23 = _) (q24:v 24 = _) _ (q26:(fun v w'=>∃ A n c,v 26 = .slice A n c /\ Q0i w' 0 9 .string (.slice A n c) (x.closed ++ y.closed)) v w1) (q27:v 27 = .agg #[.int .i64 (x1 + y1),.int .i64 (x2 + y2),.int .i64 (x3 + y3),v 26]) (q28:(fun v w'=>∃ gn,v 28 = .slice (some ⟨gn,0,none⟩) 1 1 /\ Blk w' gn 151 #[.int .i64 (x1 + y1),.int .i64 (x2 + y2),.int .i64 (x3 + y3),v 26]) v w1);intro wl hT;obtain rfl:wl = w1:=hT;intro bb hbb;intro K hK;obtain ⟨A,n,c,e26,h26⟩:=q26;obtain ⟨gn,e28,hb28⟩:=q28;have o1:bb.eval (.tmp 22) = .slice Ao zs.length co:=by rw [hbb]; dsimp only; (try simp (discharger:=decide) only [eval_put_ne]); rw [Q0a (by exact (by decide:22 < 56))]; exact q0
        have o2:bb.eval (.tmp 50) = .slice (some ⟨gn,0,none⟩) 1 1:=by rw [hbb]; dsimp only; (try simp (discharger:=decide) only [eval_put_ne]); rw [Q0a (by simp only [size_put]; exact (by decide:50 < 56))]; exact e28
        exact X9h _ _ 152 rfl w.heap.size 151 i0 (.agg #[.int .i64 0,.int .i64 0,.int .i64 0,.slice none 0 0]) 4 48 Tryz.underlying152 hi hz0 hz1 hz2 rfl (by decide) Q2o Q3s _ zs (both x y,v 26) o1 (HOB.out.below (hdr.trans hx)) ⟨gn,0,none⟩ 1 o2 (HNWS.out wl gn _ hb28) (by rw [e26]; exact HONE.out A n c) HLW.out (by decide) (by have:=(hdr.trans hx).size; have:=HSW.out; omega) (fun v' w' h1 h2 h3=>hK _ _ ⟨h1,h2,h3⟩)
       case g30=>
        intro v w1 hx (q0:v 0 = _) (q1:v 1 = _) (q2:v 2 = _) (q3:v 3 = _) (q4:v 4 = _) (q5:v 5 = _) (q6:v 6 = _) (q7:v 7 = _) (q8:v 8 = _) (q9:v 9 = _) (q10:v 10 = _) (q11:v 11 = _) (q12:v 12 = _) (q13:v 13 = _) (q14:v 14 = _) (q15:v 15 = _) (q16:v 16 = _) (q17:v 17 = _) (q18:v 18 = _) (q19:v 19 = _) (q20:v 20 = _) (q21:v 21 = _) (q22:v 22 = _) (q23:v 23 = _) (q24:v 24 = _) _ _ (q27:v 27 = .agg #[.int .i64 (x1 + y1),.int .i64 (x2 + y2),.int .i64 (x3 + y3),v 26]) _;intro wl hT;replace hT:(fun v w1 w'=>Q0u w' w.heap.size 151 4 Q2o (v 29) (zs ++ [(both x y,v 26)]) /\ w1.grownBy w' (Value.slice Ao zs.length co).ownBlock /\ ((v 29).ownBlock = (Value.slice Ao zs.length co).ownBlock ∨ (v 29).ownBlock = some w1.heap.size)) v w1 wl:=hT;intro bb hbb;subst hbb;intro K hK;go_simp;exact hK _ _ ⟨rfl,hT⟩
       case post =>
        intro v w1 hx;(iterate 25 intro (zq:v _ = _));intro (q25:(fun v w'=>∃ gn,v 25 = .slice (some ⟨gn,0,none⟩) 2 2 /\ Blk w' gn 149 #[.slice A4 n4 c4,.slice B4 m4 d4]) v w1) (q26:(fun v w'=>∃ A n c,v 26 = .slice A n c /\ Q0i w' 0 9 .string (.slice A n c) (x.closed ++ y.closed)) v w1) (q27:v 27 = .agg #[.int .i64 (x1 + y1),.int .i64 (x2 + y2),.int .i64 (x3 + y3),v 26]) (q28:(fun v w'=>∃ gn,v 28 = .slice (some ⟨gn,0,none⟩) 1 1 /\ Blk w' gn 151 #[.int .i64 (x1 + y1),.int .i64 (x2 + y2),.int .i64 (x3 + y3),v 26]) v w1);intro w2 hE;replace hE:(fun v w1 w'=>v 30 = v 29 /\ Q0u w' w.heap.size 151 4 Q2o (v 29) (zs ++ [(both x y,v 26)]) /\ w1.grownBy w' (Value.slice Ao zs.length co).ownBlock /\ ((v 29).ownBlock = (Value.slice Ao zs.length co).ownBlock ∨ (v 29).ownBlock = some w1.heap.size)) v w1 w2:=hE;simp only [Flow.acts,Act.put];go_simp;obtain ⟨A,n',c,e26,h26⟩:=q26;obtain ⟨-,hO2,hg2,hpl⟩:=hE;have hxx:=hdr.trans hx;have hO3:=HOB.out.below hxx;rw [e26] at hO2;have HO2:=Lib.hid hO2;have HX9:Hid (Ext w w2):=Lib.hid (Below.grown (HXW.out.trans (HXC.out.trans hxx)) hg2 (by have:=hxx.size; have:=HSW.out; omega) (fun b hb=>(OwnP.Q9y hO3 b hb).1))
        have hb7:=HB7.out.ext hxx;have HB9:Hid (Blk w2 g7 151 #[.int .i64 x1,.int .i64 x2,.int .i64 x3,.slice A4 n4 c4]):=Lib.hid ((hg2.block g7 hb7.lt HNE7.out).trans hb7);have HN9:Hid (some g7 ≠ (v 29).ownBlock):=Lib.hid (fun e=>by
         rcases hpl with h | h
         . rw [h] at e; exact HNE7.out e
         . rw [h] at e; have:=hb7.lt; injection e with e; omega)
        have HC9:Hid (Q0o w2 (zs ++ [((both x y,Value.slice A n' c):PV)])):=Lib.hid (Q0o.grown (fun z hz=>by
         rcases List.mem_append.1 hz with hz | hz
         . exact HCB2.out.ext hxx z hz
         . obtain rfl:=List.mem_singleton.1 hz
           exact h26) hO3 hg2)
        have HM9:Hid ((zs ++ [((both x y,Value.slice A n' c):PV)]).map (·.1) = X1b (ps.map (·.1)) (qs0.map (·.1)) k ++ X1h x (qs0.map (·.1)) (n + 1)):=Lib.hid (by rw [HST2.out,<- List.append_assoc,<- HUN2.out,List.map_append]; rfl)
        obtain ⟨vr,hvr⟩:∃ z,v 29 = z:=⟨_,rfl⟩;rw [hvr] at HO2 HN9 ⊢;clear hx hdr hxx hO2 hg2 hpl hO3 hb7 h26 e26 hvr q25 q27 q28;(repeat clear zq);go_wp2;go_roundw
        case rel=>exact ⟨n + 1,zs ++ [((both x y,Value.slice A n' c):PV)],by omega,by go_num,HO2.out,HC9.out,HM9.out,HX9.out,HB9.out,HN9.out⟩
        case measure=>simp [intOf]; omega
     . have hne:n = M:=by omega
       subst hne;go_wp2;go_roundw
       case rel=>exact ⟨k + 1,zs,by omega,by go_num,HOW2.out,HCR2.out,by rw [HST.out,HUN2.out,List.length_map,HM.out],HXW.out⟩
       case measure=>simp [intOf]; omega
  . have hke:k = L:=by omega
    subst hke;have HUA:=Lib.hid (X0d wr w.heap.size _ qs HOW.out HCR.out (by rw [HQL.out]; have:=HLEN.out; omega))
    go_wp2_with (go_at_call 182; refine HUA.out.mono ?_; rintro e w2 ⟨v',zs,rfl,h1,h2,h3,h4⟩; refine halted ?_);have H1:=Lib.hid h1;have H2:=Lib.hid h2;have H3:=Lib.hid h3;have H4:=Lib.hid h4;clear h1 h2 h3 h4;unfold Q1x;go_wp2;go_ret;exact ⟨_,zs,rfl,Q0u.weaken H1.out HX.out.size,H2.out,by rw [H3.out,HUN.out,<- HALL.out,List.length_map,HL.out],HX.out.trans H4.out⟩
end Go.Proofs
namespace Go.Proofs
open Go.RowKit Go.Tw Go.Flow
attribute [local go_sem] Oper.semAt_some
def Part (w:World) (g off:Nat) (sub:Array Value):Prop:=∀ k (hk:k < sub.size),w.cell? ⟨g,off + k,none⟩ = some sub[k]
theorem Part.ext {w w':World} {g off:Nat} {sub:Array Value} (h:Part w g off sub) (hx:Ext w w'):Part w' g off sub:=fun k hk=>hx.cell (h k hk)
theorem Y6o {P:Program} {w:World} {g off:Nat} {cs:Array Value} (h:Part w g off cs):(loadCells ⟨g,off,none⟩ cs.size).run P w = .ok cs w:=by
 have gen:∀ (n i:Nat) (acc:Array Value),i + n = cs.size -> acc.toList = cs.toList.take i -> (loadCellsFrom ⟨g,off,none⟩ i n acc).run P w = .ok cs w:=by
  intro n
  induction n with
  | zero =>
    intro i acc hi ha;have:acc = cs:=by
     apply Array.toList_inj.1
     rw [ha,List.take_of_length_le (by simp; omega)]
    subst this;simp [loadCellsFrom]
  | succ n ih =>
    intro i acc hi ha;have hlt:i < cs.size:=by omega
    have h0:=h i hlt;have ea:(⟨g,off,none⟩:Addr).add i = ⟨g,off + i,none⟩:=by rw [addr_add]
    rw [loadCellsFrom,ea];simp only [Sem.run_bind,load,Sem.run,h0,Result.andThen_ok];refine ih (i + 1) _ (by omega) ?_
    rw [Array.toList_push,ha,<- Array.getElem_toList (by simpa using hlt),List.take_append_getElem]
 exact gen cs.size 0 #[] (by omega) (by simp)
theorem X6x {P:Program} {w:World} {g off:Nat} {T:TypeId} {cs:Array Value} (h:Part w g off cs) (hA:∀ w,(isAgg T).run P w = .ok true w) (hS:∀ w,(sizeOf T).run P w = .ok cs.size w):(loadVar T ⟨g,off,none⟩).run P w = .ok (.agg cs) w:=by
 unfold loadVar;simp only [Sem.run_bind,hA,Result.andThen_ok,if_true,hS,Y6o h,Sem.run_pure]
theorem Y0r {P:Program} {w:World} {o:Oper} {a:Act} {p:Operand} {T:TypeId} {g off:Nat} {cs:Array Value} (hop:o.op = .load T p) (hA:∀ w,(isAgg T).run P w = .ok true w) (hS:∀ w,(sizeOf T).run P w = .ok cs.size w) (hp:a.eval p = .pointer (some ⟨g,off,none⟩)) (h:Part w g off cs):(execOp a.eval o).run P w = .ok (.value (.agg cs)) w:=by
 unfold execOp;simp only [hop,hp,Instr.loadAt,Instr.sureAddr,Sem.run_bind,Sem.run_pure,Result.andThen_ok,X6x h hA hS]
theorem Q6q {P:Program} {K:Value -> World -> Prop} {o:Oper} {a:Act} {w:World} (p:Operand) (T:TypeId) (ho:o.op = .load T p) (hA:∀ w,(isAgg T).run P w = .ok true w) {n:Nat} (hS:∀ w,(sizeOf T).run P w = .ok n w)
    {g off:Nat} (hp:a.eval p = .pointer (some ⟨g,off,none⟩)) {cs:Array Value} (hb:Part w g off cs) (hn:cs.size = n) (h:K (.agg cs) w):gives P K ((execOp a.eval o).run P w):=by
 subst hn;rw [Y0r ho hA hS hp hb];exact h
theorem Y8t {w:World} {g:Nat} {a b c:Int} {d:Value} (h:Blk w g 151 #[.int .i64 a,.int .i64 b,.int .i64 c,d]):Part w g 1 #[.int .i64 b,.int .i64 c]:=fun k hk=>by
 have:k = 0 ∨ k = 1:=by have:k < 2:=hk; omega
 rcases this with rfl | rfl
 . exact h.cell 1
 . exact h.cell 2
theorem X2w {a b c:Int} {A:Option Addr} {n d:Nat}:∀ u ∈ (#[Value.int .i64 a,.int .i64 b,.int .i64 c,.slice A n d]:Array Value).toList,u.oneCell' = true:=by
 intro u hu;simp only [List.mem_cons,List.not_mem_nil,or_false] at hu
 rcases hu with rfl | rfl | rfl | rfl <;> rfl
theorem Z1n (w:World) (s:ByteArray):(Instr.buildSlice 149 1 #[(0,.string s)]).run Tryz.prog w = .ok (.slice (some ⟨w.heap.size,0,none⟩) 1 1) (w.alloc (.cells #[.string s] 9)):=by kernel_rfl
theorem X4w {K:Value -> World -> Prop} {o:Oper} {a:Act} {w:World} (T E:TypeId) (x:Operand) (ho:o.op = .buildSlice T 1 #[(0,x)]) {u:Value} (hx:a.eval x = u) (hr:(Instr.buildSlice T 1 #[(0,u)]).run Tryz.prog w = .ok (.slice (some ⟨w.heap.size,0,none⟩) 1 1) (w.alloc (.cells #[u] E)))
    (h:K (.slice (some ⟨w.heap.size,0,none⟩) 1 1) (w.alloc (.cells #[u] E))):gives Tryz.prog K ((execOp a.eval o).run Tryz.prog w):=by
 unfold execOp;simp only [ho,hx,List.map_toArray,List.map_cons,List.map_nil,Sem.run_bind,hr,Result.andThen_ok,Sem.run_pure];exact h
theorem J4k {w:World} {g:Nat} {k:ByteArray} (h:Blk w g 9 #[.string k]):Q0i w 0 9 .string (.slice (some ⟨g,0,none⟩) 1 1) [k] :=
 ⟨by simp,.inr ⟨g,1,#[.string k],rfl,Nat.zero_le _,h,Nat.le_refl _,by unfold maxLen; omega,by simp,by simp⟩⟩
theorem Z3a (w:World) (x:Plan) (A:Option Addr) (n c gS gT gN gK:Nat) (av bv:Value) (s:Q0b) (t:Nat) (wt:Int) (key:ByteArray) (hc:Q0i w 0 9 .string (.slice A n c) x.closed) (htm:Z6m x)
    (hS:Blk w gS 74 #[.int .i64 s.limit,av,bv]) (hsea:Q0p w (.agg #[.int .i64 s.limit,av,bv]) s) (hT:w.cell? ⟨gT,0,none⟩ = some (.int .i64 (t:Int))) (hN:w.cell? ⟨gN,0,none⟩ = some (.int .i64 wt)) (hK:w.cell? ⟨gK,0,none⟩ = some (.string key))
    (ht:t < s.ships.length) (hw:0 <= wt /\ wt <= 1000000) (hd:0 <= ix s.ships t /\ ix s.ships t <= 1000) :
    Calls Tryz.prog 186 #[Z7s x (.slice A n c),.pointer (some ⟨gS,0,none⟩),.pointer (some ⟨gT,0,none⟩),.pointer (some ⟨gN,0,none⟩),.pointer (some ⟨gK,0,none⟩)] w fun e w' =>
     ∃ A' n' c',e = .returned (Z7s ⟨x.weight,x.closings + wt,x.delay + wt * ix s.ships t,x.closed ++ [key]⟩ (.slice A' n' c')) /\ Q0i w' 0 9 .string (.slice A' n' c') (x.closed ++ [key]) /\ Ext w w':=by
 have HC:=Lib.hid hc;have HSB:=Lib.hid hS;have HT:=Lib.hid hT;have HN:=Lib.hid hN;have HK:=Lib.hid hK;have HLC:=Lib.hid htm.l;have HADD:=Lib.hid (fun (W:World) (hW:Ext w W)=>Z5e W _ s x.closings x.delay t wt (by obtain ⟨_,_,he,h2⟩:=hsea; exact ⟨_,_,he,h2.ext hW⟩) ht (by have:=htm.c; omega) (by have:=htm.d; omega) hw hd)
 obtain ⟨ships,hships⟩:∃ z,ix s.ships t = z:=⟨_,rfl⟩;obtain ⟨dl,hdl⟩:∃ z,wt * ix s.ships t = z:=⟨_,rfl⟩;rw [hdl] at HADD ⊢;obtain ⟨x1,x2,x3,x4⟩:=x;simp only [Z7s] at *;clear hc htm hS hsea hT hN hK ht hw hd hships hdl;obtain ⟨lim,hlim⟩:∃ z,s.limit = z:=⟨_,rfl⟩;rw [hlim] at HSB HADD;clear hlim;go_enter Tryz.func186,Tryz.ntmps186;go_wp2_with fail;change Code.wp _ _ _ _ ((w.alloc (.cells #[.int .i64 x1,.int .i64 x2,.int .i64 x3,.slice A n c] 151)).alloc (.cells #[.int .i64 0,.int .i64 0,.int .i64 0,.slice none 0 0] 151));obtain ⟨W,hWW,k0,k1,HXW,eW⟩:=Q6u w 151 #[.int .i64 x1,.int .i64 x2,.int .i64 x3,.slice A n c] 151 #[.int .i64 0,.int .i64 0,.int .i64 0,.slice none 0 0];rw [hWW];clear hWW;have K0:=Lib.hid k0;have K1:=Lib.hid k1;obtain ⟨gp,hgp⟩:∃ z,w.heap.size = z:=⟨_,rfl⟩;have HGP:=Lib.hid hgp;rw [hgp] at K0 K1 eW ⊢;clear k0 k1 hgp;have HENT:=Lib.hid (enters_of (P:=Tryz.prog) Tryz.func181 (by kernel_rfl) rfl)
 have HCC:=Lib.hid (fun (V:World) g b hB h1 h2=>Y0d V g 149 (.slice A n c) b 0 0 x4 [key] hB h1 h2 (by have:=HLC.out; simp only [List.length_singleton]; omega))
 have hdr:=(Ext.refl W).drew;refine Flow.Q4c [.p,.w,.p,.w,.w,.w,.w,.w,.p,.w,.w,.w,.w,.w,.p,.last] [0,1,2,3,4,5,6,7,8,9,10,11,12,13,14,15] [[],[0],[],[2],[],[],[],[2,3,4,5,6],[],[8],[],[10],[8,9,10,11],[2,3,4,5,6,7,8,9,10,11,12],[0,1,2,3,4,5,6,7,8,9,10,11,12,13],[0,1,2,3,4,5,6,7,8,9,10,11,12,13,14]] [15]
  [.c 0 (.pointer (some ⟨gp,0,none⟩)),.c 1 (.int .i64 x1),.c 2 (.pointer (some ⟨gp,1,none⟩)),.c 3 (.agg #[.int .i64 x2,.int .i64 x3]),.c 4 (.agg #[.int .i64 lim,av,bv]),.c 5 (.int .i64 (t:Int)),.c 6 (.int .i64 wt),.c 7 (.agg #[.int .i64 (x2 + wt),.int .i64 (x3 + dl)]),.c 8 (.pointer (some ⟨gp,3,none⟩)),.c 9 (.slice A n c),.c 10 (.string key),⟨fun v wz=>(fun v w'=>∃ gn,v 11 = .slice (some ⟨gn,0,none⟩) 1 1 /\ Blk w' gn 9 #[.string key]) v wz,by rintro v a b hx ⟨gn,h1,h2⟩; exact ⟨gn,h1,h2.ext hx⟩⟩,⟨fun v wz=>(fun v w'=>∃ gm,v 12 = .slice (some ⟨gm,0,none⟩) 2 2 /\ Blk w' gm 149 #[.slice A n c,v 11]) v wz,by rintro v a b hx ⟨gn,h1,h2⟩; exact ⟨gn,h1,h2.ext hx⟩⟩,⟨fun v wz=>(fun v w'=>∃ A' n' c',v 13 = .slice A' n' c' /\ Q0i w' 0 9 .string (.slice A' n' c') (x4 ++ [key])) v wz,by rintro v a b hx ⟨A,n,c,h1,h2⟩; exact ⟨A,n,c,h1,h2.below hx⟩⟩,.is 14 (fun v=>.agg #[.int .i64 x1,.int .i64 (x2 + wt),.int .i64 (x3 + dl),v 13]),.none]
  [fun v w1 w'=>Blk w' (gp + 1) 151 #[.int .i64 x1,.int .i64 (x2 + wt),.int .i64 (x3 + dl),v 13] /\ (∀ n,n <= gp + 1 -> Below n w1 w') /\ (∀ k,k ≠ gp + 1 -> w'.heap[k]? = w1.heap[k]?)] (by kernel_rfl) rfl (by kernel_rfl) ⟨?g0,?g1,?g2,?g3,?g4,?g5,?g6,?g7,?g8,?g9,?g10,?g11,?g12,?g13,?g14,?g15,trivial⟩ ?post
 case g0 | g2 | g8=>
  intro v w1 hx;intro bb hbb;subst hbb;refine ⟨_,fun w=>?_,rfl⟩;go_simp
 case g1 | g9=>
  intro v w1 hx;(repeat intro (zq:v _ = _));intro bb hbb;subst hbb;have n0:w1.cell? ⟨gp,0,none⟩ = some (.int .i64 x1):=(K0.out.ext (hdr.trans hx)).cell 0;have n1:w1.cell? ⟨gp,3,none⟩ = some (.slice A n c):=(K0.out.ext (hdr.trans hx)).cell 3;intro K hK;go_simp;exact hK _ _ (Ext.refl _) rfl
 case g3=>
  intro v w1 hx;(repeat intro (zq:v _ = _));intro bb hbb;intro K hK;have o1:bb.eval (.tmp 9) = .pointer (some ⟨gp,1,none⟩):=by rw [hbb]; dsimp only; (try simp (discharger:=decide) only [eval_put_ne]); rw [Q0a (by simp only [size_put]; exact (by decide:9 < 22))]; assumption
  exact Q6q (.tmp 9) _ rfl Tryz.Y2v Tryz.Q8t o1 ((Y8t K0.out).ext (hdr.trans hx)) rfl (hK _ _ (Ext.refl _) rfl)
 case g4=>
  intro v w1 hx;intro bb hbb;intro K hK;have o1:bb.eval (.tmp 1) = .pointer (some ⟨gS,0,none⟩):=by rw [hbb]; dsimp only; (try simp (discharger:=decide) only [eval_put_ne]); rfl
  exact Q0x (.tmp 1) _ rfl Tryz.Z6x Tryz.Y2t o1 (HSB.out.ext (HXW.out.trans (hdr.trans hx))) rfl (hK _ _ (Ext.refl _) rfl)
 case g5 | g6 | g10=>
  intro v w1 hx;intro bb hbb;subst hbb;have n0:w1.cell? ⟨gT,0,none⟩ = some (.int .i64 (t:Int)):=(HXW.out.trans (hdr.trans hx)).cell HT.out;have n1:w1.cell? ⟨gN,0,none⟩ = some (.int .i64 wt):=(HXW.out.trans (hdr.trans hx)).cell HN.out;have n2:w1.cell? ⟨gK,0,none⟩ = some (.string key):=(HXW.out.trans (hdr.trans hx)).cell HK.out;intro K hK;go_simp;exact hK _ _ (Ext.refl _) rfl
 case g7=>
  intro v w1 hx;(repeat intro (zq:v _ = _));intro bb hbb;subst hbb;intro K hK;go_simp;refine Q0f (HADD.out w1 (HXW.out.trans (hdr.trans hx))) ?_;rintro e w2 ⟨rfl,hx2⟩;exact ⟨_,rfl,hK _ _ hx2 rfl⟩
 case g11=>
  intro v w1 hx;(repeat intro (zq:v _ = _));intro bb hbb;intro K hK;have o1:bb.eval (.tmp 17) = .string key:=by rw [hbb]; dsimp only; (try simp (discharger:=decide) only [eval_put_ne]); rw [Q0a (by simp only [size_put]; exact (by decide:17 < 22))]; assumption
  exact X4w 149 9 (.tmp 17) rfl o1 (Z1n w1 _) (hK _ _ (Ext.box _ _) ⟨_,rfl,Blk.made _ _ _⟩)
 case g12=>
  intro v w1 hx (q8:v 8 = _) (q9:v 9 = _) (q10:v 10 = _) (q11:(fun v w'=>∃ gn,v 11 = .slice (some ⟨gn,0,none⟩) 1 1 /\ Blk w' gn 9 #[.string key]) v w1);intro bb hbb;intro K hK;obtain ⟨gn,e11,hb11⟩:=q11;have o1:bb.eval (.tmp 16) = .slice A n c:=by rw [hbb]; dsimp only; (try simp (discharger:=decide) only [eval_put_ne]); rw [Q0a (by simp only [size_put]; exact (by decide:16 < 22))]; exact q9
  have o2:bb.eval (.tmp 18) = .slice (some ⟨gn,0,none⟩) 1 1:=by rw [hbb]; dsimp only; (try simp (discharger:=decide) only [eval_put_ne]); rw [Q0a (by simp only [size_put]; exact (by decide:18 < 22))]; exact e11
  exact Q7y 307 149 (.tmp 16) (.tmp 18) rfl o1 o2 (X9j w1 _ _ _ _ _ _) (hK _ _ (Ext.box _ _) ⟨_,rfl,by show Blk _ _ _ #[_,v 11]; rw [e11]; exact Blk.made _ _ _⟩)
 case g13=>
  intro v w1 hx (q2:v 2 = _) (q3:v 3 = _) (q4:v 4 = _) (q5:v 5 = _) (q6:v 6 = _) (q7:v 7 = _) (q8:v 8 = _) (q9:v 9 = _) (q10:v 10 = _) (q11:(fun v w'=>∃ gn,v 11 = .slice (some ⟨gn,0,none⟩) 1 1 /\ Blk w' gn 9 #[.string key]) v w1) (q12:(fun v w'=>∃ gm,v 12 = .slice (some ⟨gm,0,none⟩) 2 2 /\ Blk w' gm 149 #[.slice A n c,v 11]) v w1);intro bb hbb;intro K hK;obtain ⟨gn,e11,hb11⟩:=q11;obtain ⟨gm,e12,hb12⟩:=q12;have o1:bb.eval (.tmp 19) = .slice (some ⟨gm,0,none⟩) 2 2:=by rw [hbb]; dsimp only; (try simp (discharger:=decide) only [eval_put_ne]); rw [Q0a (by simp only [size_put]; exact (by decide:19 < 22))]; exact e12
  rw [e11] at hb12;have hxx:=hdr.trans hx;refine X9d rfl HENT.out o1 (HCC.out w1 gm _ hb12 (HC.out.below (HXW.out.trans hxx)) (J4k hb11)) ?_;rintro e w2 ⟨z,rfl,h1,h2⟩;obtain ⟨A',c',rfl,-⟩:=h1.shape;exact ⟨_,rfl,hK _ _ h2 ⟨A',_,c',rfl,h1.weaken (Nat.zero_le _)⟩⟩
 case g14=>
  intro v w1 hx (q0:v 0 = _) (q1:v 1 = _) (q2:v 2 = _) (q3:v 3 = _) (q4:v 4 = _) (q5:v 5 = _) (q6:v 6 = _) (q7:v 7 = _) (q8:v 8 = _) (q9:v 9 = _) (q10:v 10 = _) _ _ (q13:(fun v w'=>∃ A' n' c',v 13 = .slice A' n' c' /\ Q0i w' 0 9 .string (.slice A' n' c') (x4 ++ [key])) v w1);intro bb hbb;obtain ⟨A',n',c',e13,h13⟩:=q13;have o1:bb.eval (.tmp 8) = .int .i64 x1:=by rw [hbb]; dsimp only; (try simp (discharger:=decide) only [eval_put_ne]); rw [Q0a (by simp only [size_put]; exact (by decide:8 < 22))]; exact q1
  have o2:bb.eval (.tmp 14) = .agg #[.int .i64 (x2 + wt),.int .i64 (x3 + dl)]:=by rw [hbb]; dsimp only; (try simp (discharger:=decide) only [eval_put_ne]); rw [Q0a (by simp only [size_put]; exact (by decide:14 < 22))]; exact q7
  have o3:bb.eval (.tmp 20) = .slice A' n' c':=by rw [hbb]; dsimp only; (try simp (discharger:=decide) only [eval_put_ne]); rw [Q0a (by simp only [size_put]; exact (by decide:20 < 22))]; exact e13
  refine ⟨.agg #[.int .i64 x1,.int .i64 (x2 + wt),.int .i64 (x3 + dl),v 13],fun w=>?_,rfl⟩;rw [e13];unfold execOp;simp only [List.map_toArray,List.map_cons,List.map_nil,o1,o2,o3];clear o1 o2 o3 hbb;go_simp
 case g15=>
  intro v w1 hx (q0:v 0 = _) (q1:v 1 = _) (q2:v 2 = _) (q3:v 3 = _) (q4:v 4 = _) (q5:v 5 = _) (q6:v 6 = _) (q7:v 7 = _) (q8:v 8 = _) (q9:v 9 = _) (q10:v 10 = _) _ _ (q13:(fun v w'=>∃ A' n' c',v 13 = .slice A' n' c' /\ Q0i w' 0 9 .string (.slice A' n' c') (x4 ++ [key])) v w1) (q14:v 14 = .agg #[.int .i64 x1,.int .i64 (x2 + wt),.int .i64 (x3 + dl),v 13]);intro wl hT;obtain rfl:wl = w1:=hT;intro bb hbb;intro K hK;obtain ⟨A',n',c',e13,h13⟩:=q13;have o1:bb.eval (.tmp 6) = .pointer (some ⟨gp + 1,0,none⟩):=by rw [hbb]; dsimp only; (try simp (discharger:=decide) only [eval_put_ne]); rfl
  have o2:bb.eval (.tmp 21) = .agg #[.int .i64 x1,.int .i64 (x2 + wt),.int .i64 (x3 + dl),v 13]:=by rw [hbb]; dsimp only; (try simp (discharger:=decide) only [eval_put_ne]); rw [Q0a (by simp only [size_put]; exact (by decide:21 < 22))]; exact q14
  exact Q1y (.tmp 6) (.tmp 21) _ rfl Tryz.X9r o1 o2 (K1.out.ext (hdr.trans hx)) rfl rfl (by rw [e13]; exact X2w) (fun vv w' hb hl ho=>hK _ _ ⟨hb,hl,ho⟩)
 case post =>
  intro v w1 hx;(iterate 11 intro (zq:v _ = _));intro (q11:(fun v w'=>∃ gn,v 11 = .slice (some ⟨gn,0,none⟩) 1 1 /\ Blk w' gn 9 #[.string key]) v w1) (q12:(fun v w'=>∃ gm,v 12 = .slice (some ⟨gm,0,none⟩) 2 2 /\ Blk w' gm 149 #[.slice A n c,v 11]) v w1) (q13:(fun v w'=>∃ A' n' c',v 13 = .slice A' n' c' /\ Q0i w' 0 9 .string (.slice A' n' c') (x4 ++ [key])) v w1) (q14:v 14 = .agg #[.int .i64 x1,.int .i64 (x2 + wt),.int .i64 (x3 + dl),v 13]);intro w2 hE;replace hE:(fun v w1 w'=>Blk w' (gp + 1) 151 #[.int .i64 x1,.int .i64 (x2 + wt),.int .i64 (x3 + dl),v 13] /\ (∀ n,n <= gp + 1 -> Below n w1 w') /\ (∀ k,k ≠ gp + 1 -> w'.heap[k]? = w1.heap[k]?)) v w1 w2:=hE;simp only [Flow.acts,Act.put];go_simp;obtain ⟨A',n',c',e13,h13⟩:=q13;obtain ⟨hb9,hl9,ho9⟩:=hE;rw [e13] at hb9;have hxx:=hdr.trans hx;have HX9:Hid (Below w.heap.size W w2):=Lib.hid (Below.trans (hxx.mono (by have:=HGP.out; omega)) (hl9 _ (by have:=HGP.out; omega)))
  have HO9:Hid (Q0i w2 0 9 .string (.slice A' n' c') (x4 ++ [key])):=Lib.hid (by
   have h:=Q0o.off (w:=w1) (w':=w2) (ps:=[((⟨0,0,0,x4 ++ [key]⟩:Plan),Value.slice A' n' c')]) (g:=gp + 1) (fun q hq=>by obtain rfl:=List.mem_singleton.1 hq; exact h13) (K1.out.ext hxx) (fun k _ hk=>ho9 k hk)
   exact h _ (List.mem_singleton.2 rfl))
  clear hx hdr hxx hl9 ho9 h13 q11 q12 q14;(repeat clear zq);go_wp2;refine bodyPost_ret (Q2v Tryz.results186 rfl hb9 Tryz.J8x Tryz.X9r) rfl ?_;exact ⟨A',n',c',rfl,HO9.out,Below.trans HXW.out HX9.out⟩
end Go.Proofs
namespace Go.Proofs
open Go.RowKit Go.Tw Go.Flow
attribute [local go_sem] Oper.semAt_some
def X8n (s:Q0b) (t:Nat) (wt:Int) (key:ByteArray) (x:Plan):Plan:=⟨x.weight,x.closings + wt,x.delay + wt * ix s.ships t,x.closed ++ [key]⟩
theorem Y4i (w:World) (B:Nat) (v:Value) (ps:List PV) (gS gT gN gK:Nat) (av bv:Value) (s:Q0b) (t:Nat) (wt:Int) (key:ByteArray) (hv:Q0u w B 151 4 Q2o v ps) (hcr:Q0o w ps) (htm:∀ q ∈ ps,Z6m q.1) (hl:ps.length <= 80000)
    (hS:Blk w gS 74 #[.int .i64 s.limit,av,bv]) (hsea:Q0p w (.agg #[.int .i64 s.limit,av,bv]) s) (hT:w.cell? ⟨gT,0,none⟩ = some (.int .i64 (t:Int))) (hN:w.cell? ⟨gN,0,none⟩ = some (.int .i64 wt)) (hK:w.cell? ⟨gK,0,none⟩ = some (.string key))
    (ht:t < s.ships.length) (hw:0 <= wt /\ wt <= 1000000) (hd:0 <= ix s.ships t /\ ix s.ships t <= 1000) :
    Calls Tryz.prog 185 #[v,.func (.func 186) #[] #[.pointer (some ⟨gS,0,none⟩),.pointer (some ⟨gT,0,none⟩),.pointer (some ⟨gN,0,none⟩),.pointer (some ⟨gK,0,none⟩)]] w fun e w' =>
     ∃ x qs,e = .returned x /\ Q0u w' w.heap.size 151 4 Q2o x qs /\ Q0o w' qs /\ qs.map (·.1) = (ps.map (·.1)).map (X8n s t wt key) /\ Ext w w':=by
 obtain ⟨i0,hi,hz0,hz1,hz2⟩:=info_parts Tryz.Y9k;have HCA:=Lib.hid hcr;have HTA:=Lib.hid htm;have HD:Hid (∀ (W:World) (x:Plan) A n c,Ext w W -> Z6m x -> Q0i W 0 9 .string (.slice A n c) x.closed -> Calls Tryz.prog 186 #[.agg #[.int .i64 x.weight,.int .i64 x.closings,.int .i64 x.delay,.slice A n c],.pointer (some ⟨gS,0,none⟩),.pointer (some ⟨gT,0,none⟩),.pointer (some ⟨gN,0,none⟩),.pointer (some ⟨gK,0,none⟩)] W fun e w' =>
     ∃ A' n' c',e = .returned (.agg #[.int .i64 (X8n s t wt key x).weight,.int .i64 (X8n s t wt key x).closings,.int .i64 (X8n s t wt key x).delay,.slice A' n' c']) /\ Q0i w' 0 9 .string (.slice A' n' c') (X8n s t wt key x).closed /\ Ext W w'):=Lib.hid (fun W x A n c hW hx ho =>
  Z3a W x A n c gS gT gN gK av bv s t wt key ho hx (hS.ext hW) (by obtain ⟨_,_,he,h2⟩:=hsea; exact ⟨_,_,he,h2.ext hW⟩) (hW.cell hT) (hW.cell hN) (hW.cell hK) ht hw hd)
 obtain ⟨A,cv,hsh,HCELL⟩:=Q8d hv;subst hsh;obtain ⟨L,hL⟩:∃ L,ps.length = L:=⟨_,rfl⟩;have HL:=Lib.hid hL;rw [hL] at hl ⊢;obtain ⟨f,hf⟩:∃ f,X8n s t wt key = f:=⟨_,rfl⟩;rw [hf] at HD ⊢;clear hv hcr htm hL hS hsea hT hN hK ht hw hd hf;go_enter Tryz.func185,Tryz.ntmps185;go_wp2
 go_loopw [5,10] (fun o i wr=>∃ (k:Nat) (qs:List PV),k <= L /\ i = .int .i64 k /\ qs.length = k /\ Q0u wr w.heap.size 151 4 Q2o o qs /\ Q0o wr qs /\ qs.map (·.1) = ((ps.map (·.1)).take k).map f /\ Ext w wr) (fun _ i _=>L - (intOf i).toNat)
 case atStart=>exact ⟨0,[],Nat.zero_le _,rfl,rfl,Q0u.nil _ _ _ _ _,Q0o.nil _,rfl,Ext.refl _⟩
 case round =>
  obtain ⟨k,qs,hk,rfl,hqk,hown,hcr,hun,hx⟩:=hrel;have HUN:=Lib.hid hun;have HX:=Lib.hid hx;have HOW:=Lib.hid hown;have HCR:=Lib.hid hcr;have HQK:=Lib.hid hqk
  by_cases hlt:k < L
  . have hkp:k < ps.length:=by rw [HL.out]; exact hlt
    have hkI:(k:Int) < L:=by omega
    obtain ⟨gb,rfl,hcell⟩:=HCELL.out k hkp;have e0:=hx.cell (hcell 0 (by omega))
    have e1:=hx.cell (hcell 1 (by omega))
    have e2:=hx.cell (hcell 2 (by omega))
    have e3:=hx.cell (hcell 3 (by omega))
    obtain ⟨A4,n4,c4,hsl⟩:=HCA.out.shape (List.getElem_mem hkp);have hpk:(ps.map (·.1))[k]? = some ps[k].1:=by rw [List.getElem?_map,List.getElem?_eq_getElem hkp]; rfl
    have hcl:=HCA.out ps[k] (List.getElem_mem hkp);have htm:=HTA.out ps[k] (List.getElem_mem hkp);obtain ⟨qk,hqke⟩:∃ z,ps[k] = z:=⟨_,rfl⟩;rw [hqke] at e0 e1 e2 e3 hsl hcl hpk htm;obtain ⟨x,xv⟩:=qk;replace hsl:xv = .slice A4 n4 c4:=hsl;subst hsl;have HST:Hid (((ps.map (·.1)).take (k + 1)).map f = ((ps.map (·.1)).take k).map f ++ [f x]):=Lib.hid (by
     obtain ⟨hk',he⟩:=List.getElem?_eq_some_iff.1 hpk;rw [List.take_succ_eq_append_getElem hk',List.map_append,he]; rfl)
    rw [Nat.add_zero] at e0;have HCL:=Lib.hid hcl;have HTM:Hid (Z6m x):=Lib.hid htm;have HCK:=Lib.hid (fun (W:World) (hW:Ext wr W)=>HD.out W x A4 n4 c4 (HX.out.trans hW) HTM.out (HCL.out.below (HX.out.trans hW)));obtain ⟨x1,hx1⟩:∃ z,x.weight = z:=⟨_,rfl⟩;obtain ⟨x2,hx2⟩:∃ z,x.closings = z:=⟨_,rfl⟩;obtain ⟨x3,hx3⟩:∃ z,x.delay = z:=⟨_,rfl⟩;rw [hx1,hx2,hx3] at HCK;obtain ⟨y,hy⟩:∃ z,f x = z:=⟨_,rfl⟩;rw [hy] at HCK HST;obtain ⟨y1,hy1⟩:∃ z,y.weight = z:=⟨_,rfl⟩;obtain ⟨y2,hy2⟩:∃ z,y.closings = z:=⟨_,rfl⟩;obtain ⟨y3,hy3⟩:∃ z,y.delay = z:=⟨_,rfl⟩;have HPY:=Lib.hid (show y.weight = y1 /\ y.closings = y2 /\ y.delay = y3 from ⟨hy1,hy2,hy3⟩)
    rw [hy1,hy2,hy3] at HCK;replace e0:wr.cell? ⟨gb,k * 4,none⟩ = some (.int .i64 x1):=by rw [<- hx1]; exact e0
    replace e1:wr.cell? ⟨gb,k * 4 + 1,none⟩ = some (.int .i64 x2):=by rw [<- hx2]; exact e1
    replace e2:wr.cell? ⟨gb,k * 4 + 2,none⟩ = some (.int .i64 x3):=by rw [<- hx3]; exact e2
    replace e3:wr.cell? ⟨gb,k * 4 + 3,none⟩ = some (.slice A4 n4 c4):=e3;have hbox:=Ext.box wr (.cells #[.int .i64 x1,.int .i64 x2,.int .i64 x3,.slice A4 n4 c4] 151);have K3:=Blk.made wr 151 #[.int .i64 x1,.int .i64 x2,.int .i64 x3,.slice A4 n4 c4];have d0:=(K3).cell 0;have d1:=(K3).cell 1;have d2:=(K3).cell 2;have d3:=(K3).cell 3;simp only [Go.Tw.gA,Go.Tw.gB,Go.Tw.gC] at d0 d1 d2 d3;have HXB:=Lib.hid hbox;have HNWS:Hid (∀ (W:World) gn V,Blk W gn 151 #[.int .i64 y1,.int .i64 y2,.int .i64 y3,V] -> ∀ j u,(Q2o (y,V))[j]? = some u -> W.cell? ((⟨gn,0,none⟩:Addr).add j) = some u):=Lib.hid (fun W gn V hb=>by unfold Q2o; dsimp only; rw [HPY.out.1,HPY.out.2.1,HPY.out.2.2]; exact Q5k hb)
    have HONE:Hid (∀ A n c,∀ u ∈ Q2o (y,.slice A n c),u.oneCell' = true):=Lib.hid (fun A n c=>by unfold Q2o; simp [Value.oneCell'])
    have HLW:Hid (qs.length + 1 <= 100000):=Lib.hid (by omega)
    have HSW:=Lib.hid HX.out.size;obtain ⟨Ao,co,hos,-⟩:=hown.shape;subst hos;clear hcell hqke hx1 hx2 hx3 hy hy1 hy2 hy3 hbox K3 hown hcr hun hx hcl htm hpk hkp hqk
    go_light
    go_wp2_with (first | (refine (HCK.out _ HXB.out).mono ?_; rintro e w5 ⟨A',n',c',rfl,hu,hx5⟩; have HU:=Lib.hid hu; have HX5:=Lib.hid (HXB.out.trans hx5); clear hu hx5) | (refine Q1g (o:=⟨some 19,_,_,_,_,_⟩) rfl ?_; refine Q2t (.tmp 14) (.tmp 18) 152 rfl w.heap.size 151 i0 (.agg #[.int .i64 0,.int .i64 0,.int .i64 0,.slice none 0 0]) 4 48 Tryz.underlying152 hi hz0 hz1 hz2 rfl (by decide) Q2o Q3s _ qs (y,.slice A' n' c') rfl (HOW.out.below (HX5.out.trans (Ext.box _ _))) ⟨w5.heap.size,0,none⟩ 1 rfl (HNWS.out _ _ _ (Blk.made _ _ _)) (HONE.out _ _ _) HLW.out (by decide) (by have h1:=(HX5.out.trans (Ext.box w5 (.cells #[.int .i64 y1,.int .i64 y2,.int .i64 y3,.slice A' n' c'] 151))).size; have h2:=HSW.out; omega) ?_; intro v' w9 hown' hgrow))
    have hxx:=HX5.out.trans (Ext.box w5 (.cells #[.int .i64 y1,.int .i64 y2,.int .i64 y3,.slice A' n' c'] 151));have hO3:=HOW.out.below hxx;have HO9:=Lib.hid hown';have HX9:Hid (Ext w w9):=Lib.hid (Below.grown (HX.out.trans hxx) hgrow (by have:=hxx.size; have:=HSW.out; omega) (fun b hb=>(OwnP.Q9y hO3 b hb).1))
    have HC9:Hid (Q0o w9 (qs ++ [((y,Value.slice A' n' c'):PV)])):=Lib.hid (Q0o.grown (fun z hz=>by
     rcases List.mem_append.1 hz with hz | hz
     . exact HCR.out.ext hxx z hz
     . obtain rfl:=List.mem_singleton.1 hz
       exact HU.out.below (Ext.box w5 (.cells #[.int .i64 y1,.int .i64 y2,.int .i64 y3,.slice A' n' c'] 151))) hO3 hgrow)
    have HM9:Hid ((qs ++ [((y,Value.slice A' n' c'):PV)]).map (·.1) = ((ps.map (·.1)).take (k + 1)).map f):=Lib.hid (by rw [HST.out,<- HUN.out,List.map_append]; rfl)
    have HL9:Hid ((qs ++ [((y,Value.slice A' n' c'):PV)]).length = k + 1):=Lib.hid (by rw [List.length_append,HQK.out]; rfl)
    clear hxx hO3 hown' hgrow;go_wp2;go_roundw
    case rel=>exact ⟨k + 1,qs ++ [((y,Value.slice A' n' c'):PV)],by omega,by go_num,HL9.out,HO9.out,HC9.out,HM9.out,HX9.out⟩
    case measure=>simp [intOf]; omega
  . have hke:k = L:=by omega
    subst hke;clear hown hcr hun hx hqk;go_wp2;go_ret;exact ⟨_,rfl,qs,HOW.out,HCR.out,by have h:=HUN.out; rw [List.take_of_length_le (by rw [List.length_map,HL.out]; omega)] at h; simpa using h,HX.out⟩
end Go.Proofs
namespace Go.Tw
open Go.RowKit Go.Flow
def encR (r:Runner):List Value:=[.int .i64 (r.member:Int),.int .i64 r.level,.bool r.dry]
theorem Q8o (r:Runner):(encR r).length = 3:=rfl
theorem Y6h (r:Runner):∀ u ∈ encR r,u.oneCell' = true:=by unfold encR; simp [Value.oneCell']
end Go.Tw
namespace Go.Proofs
open Go.RowKit Go.Tw Go.Flow
attribute [local go_sem] Oper.semAt_some
theorem Tryz.J7f (w:World):(isAgg 206).run Tryz.prog w = .ok true w:=by kernel_rfl
theorem Tryz.Y2o (w:World):(sizeOf 206).run Tryz.prog w = .ok 3 w:=by kernel_rfl
theorem Tryz.Z8d:(Tryz.prog.info? 206).map (fun i=>(i.zero,i.size,i.bytes)) = some (some (.agg #[.int .i64 0,.int .i64 0,.bool false]),3,24):=by kernel_rfl
theorem J5p {w:World} {M:Option Addr} {s:Q0b} {k b off capx capy capz:Nat} {X Y Z:Option Addr} (h:J4j w M s k b off capx capy capz X Y Z) :
    Part w b (off + k * 5) #[.string (Q1d s.members k),.int .i64 (Q0h s.members k),.slice X (Q0d s.members k).length capx,.slice Y (Q0n s.members k).length capy,.slice Z (Q0s s.members k).length capz]:=fun j hj=>by
 have:j = 0 ∨ j = 1 ∨ j = 2 ∨ j = 3 ∨ j = 4:=by have:j < 5:=hj; omega
 rcases this with rfl | rfl | rfl | rfl | rfl
 . exact h.e0
 . exact h.e1
 . exact h.e2
 . exact h.e3
 . exact h.e4
theorem Y5w {a b:Int} {c:Bool}:∀ u ∈ (#[Value.int .i64 a,.int .i64 b,.bool c]:Array Value).toList,u.oneCell' = true:=by
 intro u hu;simp only [List.mem_cons,List.not_mem_nil,or_false] at hu
 rcases hu with rfl | rfl | rfl <;> rfl
theorem Z7g (w:World) (r:Runner) (gS gT gC:Nat) (av bv:Value) (s:Q0b) (t:Nat) (cl:Bool) (hS:Blk w gS 74 #[.int .i64 s.limit,av,bv]) (hsea:Q0p w (.agg #[.int .i64 s.limit,av,bv]) s) (hT:w.cell? ⟨gT,0,none⟩ = some (.int .i64 (t:Int))) (hC:w.cell? ⟨gC,0,none⟩ = some (.bool cl))
    (hV:Q0m s) (ht:t < s.ships.length) (hk:r.member < s.members.length) (hl:0 <= r.level /\ r.level <= 100000) :
    Calls Tryz.prog 215 #[.agg #[.int .i64 (r.member:Int),.int .i64 r.level,.bool r.dry],.pointer (some ⟨gS,0,none⟩),.pointer (some ⟨gT,0,none⟩),.pointer (some ⟨gC,0,none⟩)] w fun e w' =>
     e = .returned (.agg #[.int .i64 ((mv1 s t cl r).member:Int),.int .i64 (mv1 s t cl r).level,.bool (mv1 s t cl r).dry]) /\ Ext w w':=by
 have HSB:=Lib.hid hS;have HT:=Lib.hid hT;have HC:=Lib.hid hC;obtain ⟨k,hkk⟩:∃ z,r.member = z:=⟨_,rfl⟩;have HMV:Hid ((mv1 s t cl r).member = k /\ (mv1 s t cl r).level = ((Q1k s k).stepT t r.level cl).2 /\ (mv1 s t cl r).dry = (r.dry && decide (((Q1k s k).stepT t r.level cl).1 <= s.limit))):=Lib.hid (by rw [<- hkk]; exact ⟨rfl,rfl,rfl⟩)
 rw [hkk] at hk ⊢;rw [HMV.out.1,HMV.out.2.1,HMV.out.2.2];obtain ⟨lv,hlv⟩:∃ z,r.level = z:=⟨_,rfl⟩;obtain ⟨dry,hdry⟩:∃ z,r.dry = z:=⟨_,rfl⟩;rw [hlv] at hl ⊢;rw [hdry];clear HMV hkk hlv hdry;have hsea':=hsea;obtain ⟨_,_,he,h2⟩:=hsea';injection he with he;injection he with he;simp only [List.cons.injEq,and_true,true_and] at he;obtain ⟨rfl,rfl⟩:=he;obtain ⟨A,capa,rfl,-,-,-⟩:=h2.ships.opened;obtain ⟨M,capb,rfl,-,-,-⟩:=h2.members.opened;obtain ⟨b,off,capx,capy,capz,X,Y,Z,hm⟩:=Q4r h2.members hk;obtain rfl:=hm.addr;have hok:=Z3z hV hk (n:=s.ships.length) (Nat.le_refl _);have HST:=Lib.hid (fun (W:World) (hW:Ext w W)=>Y9e W _ (Q1k s k) t lv cl (hm.mem hW) (by have:=hok.out; omega) (by have:=hok.inf; omega) hl (hok.bd t (by have:=hok.inf; omega)))
 have HMP:=Lib.hid (J5p hm);obtain ⟨pk,hpk⟩:∃ z,((Q1k s k).stepT t lv cl).1 = z:=⟨_,rfl⟩;obtain ⟨nl,hnl⟩:∃ z,((Q1k s k).stepT t lv cl).2 = z:=⟨_,rfl⟩;rw [hpk,hnl] at HST ⊢;obtain ⟨nm,hnm⟩:∃ x,Q1d s.members k = x:=⟨_,rfl⟩;obtain ⟨wt,hwt⟩:∃ x,Q0h s.members k = x:=⟨_,rfl⟩;obtain ⟨lc,hlc⟩:∃ x,(Q0d s.members k).length = x:=⟨_,rfl⟩;obtain ⟨lo,hlo⟩:∃ x,(Q0n s.members k).length = x:=⟨_,rfl⟩;obtain ⟨li,hli⟩:∃ x,(Q0s s.members k).length = x:=⟨_,rfl⟩;rw [hnm,hwt,hlc,hlo,hli] at HST HMP;obtain ⟨lim,hlim⟩:∃ z,s.limit = z:=⟨_,rfl⟩;rw [hlim] at HSB ⊢;have hkI:(k:Int) < s.members.length:=by omega
 clear hS hsea hT hC hV ht hl h2 hm hok hpk hnl hnm hwt hlc hlo hli hlim;go_enter Tryz.func215,Tryz.ntmps215;go_wp2_with fail;change Code.wp _ _ _ _ ((w.alloc (.cells #[.int .i64 (k:Int),.int .i64 lv,.bool dry] 206)).alloc (.cells #[.int .i64 0,.int .i64 0,.bool false] 206));obtain ⟨W,hWW,k0,k1,HXW,eW⟩:=Q6u w 206 #[.int .i64 (k:Int),.int .i64 lv,.bool dry] 206 #[.int .i64 0,.int .i64 0,.bool false];rw [hWW];clear hWW;have K0:=Lib.hid k0;have K1:=Lib.hid k1;obtain ⟨gp,hgp⟩:∃ z,w.heap.size = z:=⟨_,rfl⟩;have HGP:=Lib.hid hgp;rw [hgp] at K0 K1 eW ⊢;clear k0 k1 hgp;have hdr:=(Ext.refl W).drew;refine Flow.Q1q [.p,.w,.p,.w,.p,.w,.w,.p,.w,.w,.w,.p,.p,.p,.p,.p] [0,1,2,3,4,5,6,7,8,9,10,11,12,13,14,15] [[],[0],[],[2],[1,3],[4],[],[],[7],[],[5,6,8,9],[10],[11],[11],[0,1,2,3,4,5,6,7,8,9,10,11,12],[0,1,2,3,4,5,6,7,8,9,10,11,12,13,14]]
  [.c 0 (.pointer (some ⟨gS,2,none⟩)),.c 1 (.slice (some ⟨b,off,none⟩) s.members.length capb),.c 2 (.pointer (some ⟨gp,0,none⟩)),.c 3 (.int .i64 (k:Int)),.c 4 (.pointer (some ⟨b,off + k * 5,none⟩)),.c 5 (.agg #[.string nm,.int .i64 wt,.slice X lc capx,.slice Y lo capy,.slice Z li capz]),.c 6 (.int .i64 (t:Int)),.c 7 (.pointer (some ⟨gp,1,none⟩)),.c 8 (.int .i64 lv),.c 9 (.bool cl),.c 10 (.tuple #[.int .i64 pk,.int .i64 nl]),.c 11 (.tuple #[.int .i64 pk,.int .i64 nl]),.c 12 (.int .i64 pk),.c 13 (.int .i64 nl),.c 14 (.int .i64 pk),.c 15 (.int .i64 nl)]
  (by kernel_rfl) rfl (by kernel_rfl) ⟨?g0,?g1,?g2,?g3,?g4,?g5,?g6,?g7,?g8,?g9,?g10,?g11,?g12,?g13,?g14,?g15,trivial⟩ ?post
 case g0 | g2 | g7=>
  intro v w1 hx;intro bb hbb;subst hbb;refine ⟨_,fun w=>?_,rfl⟩;go_simp
 case g1 | g3 | g8=>
  intro v w1 hx;(repeat intro (zq:v _ = _));intro bb hbb;subst hbb;have n0:w1.cell? ⟨gS,2,none⟩ = some (.slice (some ⟨b,off,none⟩) s.members.length capb):=(HSB.out.ext (HXW.out.trans (hdr.trans hx))).cell 2;have n1:w1.cell? ⟨gp,0,none⟩ = some (.int .i64 (k:Int)):=(K0.out.ext (hdr.trans hx)).cell 0;have n2:w1.cell? ⟨gp,1,none⟩ = some (.int .i64 lv):=(K0.out.ext (hdr.trans hx)).cell 1;intro K hK;go_simp;exact hK _ _ (Ext.refl _) rfl
 case g4 | g11 | g12 | g13 | g14 | g15=>
  intro v w1 hx;(repeat intro (zq:v _ = _));intro bb hbb;subst hbb;refine ⟨_,fun w=>?_,rfl⟩;go_simp
 case g5=>
  intro v w1 hx;(repeat intro (zq:v _ = _));intro bb hbb;intro K hK;have o1:bb.eval (.tmp 13) = .pointer (some ⟨b,off + k * 5,none⟩):=by rw [hbb]; dsimp only; (try simp (discharger:=decide) only [eval_put_ne]); rw [Q0a (by simp only [size_put]; exact (by decide:13 < 34))]; assumption
  exact Q6q (.tmp 13) _ rfl Tryz.J9s Tryz.J8s o1 (HMP.out.ext (HXW.out.trans (hdr.trans hx))) rfl (hK _ _ (Ext.refl _) rfl)
 case g6 | g9=>
  intro v w1 hx;intro bb hbb;subst hbb;have n0:w1.cell? ⟨gT,0,none⟩ = some (.int .i64 (t:Int)):=(HXW.out.trans (hdr.trans hx)).cell HT.out;have n1:w1.cell? ⟨gC,0,none⟩ = some (.bool cl):=(HXW.out.trans (hdr.trans hx)).cell HC.out;intro K hK;go_simp;exact hK _ _ (Ext.refl _) rfl
 case g10=>
  intro v w1 hx;(repeat intro (zq:v _ = _));intro bb hbb;subst hbb;intro K hK;go_simp;refine Q0f (HST.out w1 (HXW.out.trans (hdr.trans hx))) ?_;rintro e w2 ⟨rfl,hx2⟩;exact ⟨_,rfl,hK _ _ hx2 rfl⟩
 case post =>
  intro v w1 hx;(iterate 14 intro (zq:v _ = _));intro (q14:v 14 = _) (q15:v 15 = _);simp only [Flow.All,Flow.acts,Act.put];go_simp;have HXX:=Lib.hid (HXW.out.trans (hdr.trans hx));have k0:=K0.out.ext (hdr.trans hx);have k1:=K1.out.ext (hdr.trans hx);have kS:=HSB.out.ext HXX.out;have c0:=(k0).cell 0;have c1:=(k0).cell 1;have c2:=(k0).cell 2;simp only [Go.Tw.gA,Go.Tw.gB,Go.Tw.gC] at c0 c1 c2;have s0:=kS.cell 0;simp only [Go.Tw.gA,Go.Tw.gB] at s0;have HSZ:Hid (w.heap.size <= gp):=Lib.hid (by have:=HGP.out; omega)
  clear hx hdr kS;(repeat clear zq);cases dry with
  | true =>
    by_cases hpl:pk <= lim
    . have hde:decide (pk <= lim) = true:=by simp [hpl]
      go_wp2_with (refine Q0t rfl _ _ _ rfl Tryz.Y2o rfl rfl k1 rfl rfl Y5w ?_; intro w9 hb9 hl9 ho9);refine bodyPost_ret (Q2v Tryz.results215 rfl hb9 Tryz.J7f Tryz.Y2o) rfl ?_;exact ⟨by first | rfl | simp [hde],Below.trans HXX.out (hl9 _ (by have:=HSZ.out; omega))⟩
    . have hde:decide (pk <= lim) = false:=by simp [hpl]
      go_wp2_with (refine Q0t rfl _ _ _ rfl Tryz.Y2o rfl rfl k1 rfl rfl Y5w ?_; intro w9 hb9 hl9 ho9);refine bodyPost_ret (Q2v Tryz.results215 rfl hb9 Tryz.J7f Tryz.Y2o) rfl ?_;exact ⟨by first | rfl | simp [hde],Below.trans HXX.out (hl9 _ (by have:=HSZ.out; omega))⟩
  | false =>
    go_wp2_with (refine Q0t rfl _ _ _ rfl Tryz.Y2o rfl rfl k1 rfl rfl Y5w ?_; intro w9 hb9 hl9 ho9);refine bodyPost_ret (Q2v Tryz.results215 rfl hb9 Tryz.J7f Tryz.Y2o) rfl ?_;exact ⟨rfl,Below.trans HXX.out (hl9 _ (by have:=HSZ.out; omega))⟩
end Go.Proofs
namespace Go.Tw
open Go.RowKit Go.Flow
def Lev (t:Nat) (l:List Runner):Prop:=∀ r ∈ l,0 <= r.level /\ r.level <= 1024 * (t:Int)
theorem Q0u.split {α:Type} {w:World} {B k:Nat} {e:TypeId} {enc:α -> List Value} {v:Value} {l:List α} (h:Q0u w B e k enc v l) :
    (v = .slice none 0 0 /\ l = []) ∨ ∃ g cap cur,v = .slice (some ⟨g,0,none⟩) l.length cap /\ B <= g /\ Blk w g e cur /\ l.length <= cap /\ cap <= maxLen /\ cur.size = cap * k /\ cur.toList.take (l.length * k) = l.flatMap enc:=by
 obtain ⟨h1,h2⟩:=h
 rcases h2 with ⟨rfl,h0⟩ | ⟨g,cap,cur,rfl,hbg,hg,hcap,hmax,hsz,ht⟩
 . exact .inl ⟨rfl,List.length_eq_zero_iff.1 h0⟩
 . exact .inr ⟨g,cap,cur,rfl,hbg,hg,hcap,hmax,hsz,ht⟩
theorem Q0u.Q9y {α:Type} {w:World} {B k:Nat} {e:TypeId} {enc:α -> List Value} {v:Value} {l:List α} (h:Q0u w B e k enc v l):∀ b,v.ownBlock = some b -> B <= b /\ b < w.heap.size /\ ∃ cs,Blk w b e cs:=by
 intro b hb
 rcases h.split with ⟨rfl,_⟩ | ⟨g,cap,cur,rfl,hbg,hg,_⟩
 . cases hb
 . cases hb; exact ⟨hbg,hg.lt,_,hg⟩
theorem Q0u.reads {α:Type} {w:World} {B k:Nat} {e:TypeId} {enc:α -> List Value} {v:Value} {l:List α} (hk:∀ x,(enc x).length = k) (h:Q0u w B e k enc v l):∃ A cv,v = .slice A l.length cv /\ Hid (∀ j (hj:j < l.length),∃ gb,A = some ⟨gb,0,none⟩ /\ ∀ i,i < k -> w.cell? ⟨gb,j * k + i,none⟩ = (enc l[j])[i]?):=by
 rcases h.split with ⟨rfl,h0⟩ | ⟨gb,cap,cur,rfl,_,hb,_,_,_,htk⟩
 . exact ⟨none,0,by rw [h0]; rfl,Lib.hid (fun j hj=>by rw [h0] at hj; simp at hj)⟩
 . refine ⟨_,cap,rfl,Lib.hid (fun j hj=>⟨gb,rfl,fun i hi=>?_⟩)⟩
   have hm:(j + 1) * k <= l.length * k:=Nat.mul_le_mul_right _ hj;rw [Nat.succ_mul] at hm;rw [hb.cell,<- flat_get hk l j i hj hi,<- htk,List.getElem?_take,if_pos (by omega)]
   simp
end Go.Tw
namespace Go.Proofs
open Go.RowKit Go.Tw Go.Flow
attribute [local go_sem] Oper.semAt_some
theorem Z8n {s:Q0b} (hV:Q0m s) {t:Nat} (ht:t < s.ships.length) {c:Bool} {l:List Runner} (hk:Known s l) (hl:Lev t l):Lev (t + 1) (l.map (mv1 s t c)):=by
 intro r hr;obtain ⟨q,hq,rfl⟩:=List.mem_map.1 hr;have hok:=Z3z hV (hk q hq) (n:=s.ships.length) (Nat.le_refl _);exact Z5c (hl q hq) (hok.bd t (by have:=hok.inf; omega))
theorem Y5q (w:World) (B:Nat) (v:Value) (ps:List Runner) (gS gT gC:Nat) (av bv:Value) (s:Q0b) (t:Nat) (cl:Bool) (hv:Q0u w B 206 3 encR v ps) (hkn:Known s ps) (hlv:Lev t ps) (hl:ps.length <= 80000)
    (hS:Blk w gS 74 #[.int .i64 s.limit,av,bv]) (hsea:Q0p w (.agg #[.int .i64 s.limit,av,bv]) s) (hT:w.cell? ⟨gT,0,none⟩ = some (.int .i64 (t:Int))) (hC:w.cell? ⟨gC,0,none⟩ = some (.bool cl))
    (hV:Q0m s) (ht:t < s.ships.length) :
    Calls Tryz.prog 214 #[v,.func (.func 215) #[] #[.pointer (some ⟨gS,0,none⟩),.pointer (some ⟨gT,0,none⟩),.pointer (some ⟨gC,0,none⟩)]] w fun e w' =>
     ∃ x,e = .returned x /\ Q0u w' w.heap.size 206 3 encR x (moved s t cl ps) /\ Ext w w':=by
 obtain ⟨i0,hi,hz0,hz1,hz2⟩:=info_parts Tryz.Z8d;have h6:=hV.tides;have HD:Hid (∀ (W:World) (x:Runner),Ext w W -> x ∈ ps -> Calls Tryz.prog 215 #[.agg #[.int .i64 (x.member:Int),.int .i64 x.level,.bool x.dry],.pointer (some ⟨gS,0,none⟩),.pointer (some ⟨gT,0,none⟩),.pointer (some ⟨gC,0,none⟩)] W fun e w' =>
     e = .returned (.agg #[.int .i64 ((mv1 s t cl x).member:Int),.int .i64 (mv1 s t cl x).level,.bool (mv1 s t cl x).dry]) /\ Ext W w'):=Lib.hid (fun W x hW hx =>
  Z7g W x gS gT gC av bv s t cl (hS.ext hW) (by obtain ⟨_,_,he,h2⟩:=hsea; exact ⟨_,_,he,h2.ext hW⟩) (hW.cell hT) (hW.cell hC) hV ht (hkn x hx) (by have:=hlv x hx; omega))
 obtain ⟨A,cv,hsh,HCELL⟩:=hv.reads Q8o;subst hsh;obtain ⟨L,hL⟩:∃ L,ps.length = L:=⟨_,rfl⟩;have HL:=Lib.hid hL;rw [hL] at hl ⊢;have HFIN:Hid ((ps.take L).map (mv1 s t cl) = moved s t cl ps):=Lib.hid (by rw [Y5x,List.take_of_length_le (by omega)])
 obtain ⟨f,hf⟩:∃ f,mv1 s t cl = f:=⟨_,rfl⟩;rw [hf] at HD HFIN;obtain ⟨res,hres⟩:∃ z,moved s t cl ps = z:=⟨_,rfl⟩;rw [hres] at HFIN ⊢;clear hv hkn hlv hL hS hsea hT hC hV ht hf hres h6;go_enter Tryz.func214,Tryz.ntmps214;go_wp2
 go_loopw [5,10] (fun o i wr=>∃ (k:Nat),k <= L /\ i = .int .i64 k /\ Q0u wr w.heap.size 206 3 encR o ((ps.take k).map f) /\ Ext w wr) (fun _ i _=>L - (intOf i).toNat)
 case atStart=>exact ⟨0,Nat.zero_le _,rfl,Q0u.nil _ _ _ _ _,Ext.refl _⟩
 case round =>
  obtain ⟨k,hk,rfl,hown,hx⟩:=hrel;have HX:=Lib.hid hx;have HOW:=Lib.hid hown
  by_cases hlt:k < L
  . have hkp:k < ps.length:=by rw [HL.out]; exact hlt
    have hkI:(k:Int) < L:=by omega
    obtain ⟨gb,rfl,hcell⟩:=HCELL.out k hkp;have e0:=hx.cell (hcell 0 (by omega))
    have e1:=hx.cell (hcell 1 (by omega))
    have e2:=hx.cell (hcell 2 (by omega))
    have hmx:=List.getElem_mem hkp;obtain ⟨x,hqke⟩:∃ z,ps[k] = z:=⟨_,rfl⟩;have HST:Hid ((ps.take (k + 1)).map f = (ps.take k).map f ++ [f x]):=Lib.hid (by
     rw [List.take_succ_eq_append_getElem hkp,List.map_append,hqke]; rfl)
    have HLW:Hid (((ps.take k).map f).length + 1 <= 100000):=Lib.hid (by rw [List.length_map,List.length_take]; omega)
    rw [hqke] at e0 e1 e2 hmx;have HCK:=Lib.hid (fun (W:World) (hW:Ext wr W)=>HD.out W x (HX.out.trans hW) hmx);rw [Nat.add_zero] at e0;obtain ⟨x1,hx1⟩:∃ z,x.member = z:=⟨_,rfl⟩;obtain ⟨x2,hx2⟩:∃ z,x.level = z:=⟨_,rfl⟩;obtain ⟨x3,hx3⟩:∃ z,x.dry = z:=⟨_,rfl⟩;rw [hx1,hx2,hx3] at HCK;obtain ⟨y,hy⟩:∃ z,f x = z:=⟨_,rfl⟩;rw [hy] at HCK HST;obtain ⟨zs,hzs⟩:∃ z,(ps.take k).map f = z:=⟨_,rfl⟩;rw [hzs] at HST HLW HOW;obtain ⟨y1,hy1⟩:∃ z,y.member = z:=⟨_,rfl⟩;obtain ⟨y2,hy2⟩:∃ z,y.level = z:=⟨_,rfl⟩;obtain ⟨y3,hy3⟩:∃ z,y.dry = z:=⟨_,rfl⟩;have HPY:=Lib.hid (show y.member = y1 /\ y.level = y2 /\ y.dry = y3 from ⟨hy1,hy2,hy3⟩)
    rw [hy1,hy2,hy3] at HCK;replace e0:wr.cell? ⟨gb,k * 3,none⟩ = some (.int .i64 (x1:Int)):=by rw [<- hx1]; exact e0
    replace e1:wr.cell? ⟨gb,k * 3 + 1,none⟩ = some (.int .i64 x2):=by rw [<- hx2]; exact e1
    replace e2:wr.cell? ⟨gb,k * 3 + 2,none⟩ = some (.bool x3):=by rw [<- hx3]; exact e2
    have hbox:=Ext.box wr (.cells #[.int .i64 (x1:Int),.int .i64 x2,.bool x3] 206);have K3:=Blk.made wr 206 #[.int .i64 (x1:Int),.int .i64 x2,.bool x3];have d0:=(K3).cell 0;have d1:=(K3).cell 1;have d2:=(K3).cell 2;simp only [Go.Tw.gA,Go.Tw.gB,Go.Tw.gC] at d0 d1 d2;have HXB:=Lib.hid hbox;have HNWS:Hid (∀ (W:World) gn,Blk W gn 206 #[.int .i64 (y1:Int),.int .i64 y2,.bool y3] -> ∀ j u,(encR y)[j]? = some u -> W.cell? ((⟨gn,0,none⟩:Addr).add j) = some u):=Lib.hid (fun W gn hb=>by unfold encR; rw [HPY.out.1,HPY.out.2.1,HPY.out.2.2]; exact Q5k hb)
    have HSW:=Lib.hid HX.out.size;obtain ⟨Ao,co,hos,-⟩:=HOW.out.shape;subst hos;clear hcell hqke hx1 hx2 hx3 hy hy1 hy2 hy3 hbox K3 hown hx hkp hmx hzs
    go_light
    go_wp2_with (first | (refine (HCK.out _ HXB.out).mono ?_; rintro e w5 ⟨rfl,hx5⟩; have HX5:=Lib.hid (HXB.out.trans hx5); clear hx5) | (refine Q1g (o:=⟨some 19,_,_,_,_,_⟩) rfl ?_; refine Q2t (.tmp 14) (.tmp 18) 204 rfl w.heap.size 206 i0 (.agg #[.int .i64 0,.int .i64 0,.bool false]) 3 24 Tryz.underlying204 hi hz0 hz1 hz2 rfl (by decide) encR Q8o _ zs y rfl (HOW.out.below (HX5.out.trans (Ext.box _ _))) ⟨w5.heap.size,0,none⟩ 1 rfl (HNWS.out _ _ (Blk.made _ _ _)) (Y6h y) HLW.out (by decide) (by have h1:=(HX5.out.trans (Ext.box w5 (.cells #[.int .i64 (y1:Int),.int .i64 y2,.bool y3] 206))).size; have h2:=HSW.out; omega) ?_; intro v' w9 hown' hgrow))
    have hxx:=HX5.out.trans (Ext.box w5 (.cells #[.int .i64 (y1:Int),.int .i64 y2,.bool y3] 206));have hO3:=HOW.out.below hxx;have HO9:=Lib.hid hown';have HX9:Hid (Ext w w9):=Lib.hid (Below.grown (HX.out.trans hxx) hgrow (by have:=hxx.size; have:=HSW.out; omega) (fun b hb=>(hO3.Q9y b hb).1))
    clear hxx hO3 hown' hgrow;go_wp2;go_roundw
    case rel=>exact ⟨k + 1,by omega,by go_num,by rw [HST.out]; exact HO9.out,HX9.out⟩
    case measure=>simp [intOf]; omega
  . have hke:k = L:=by omega
    subst hke;rw [HFIN.out] at HOW;clear hown hx;go_wp2;go_ret;exact ⟨_,rfl,HOW.out,HX.out⟩
theorem J1n (w:World) (B:Nat) (v u:Value) (ps:List Runner) (s:Q0b) (t:Nat) (cl:Bool) (hv:Q0p w v s) (hu:Q0u w B 206 3 encR u ps) (hkn:Known s ps) (hlv:Lev t ps) (hl:ps.length <= 80000) (hV:Q0m s) (ht:t < s.ships.length) :
    Calls Tryz.prog 183 #[v,.int .i64 (t:Int),u,.bool cl] w fun e w'=>∃ x,e = .returned x /\ Q0u w' w.heap.size 206 3 encR x (moved s t cl ps) /\ Ext w w':=by
 obtain ⟨a,b,rfl,h2⟩:=hv;obtain ⟨A,capa,rfl,-,-,-⟩:=h2.ships.opened;obtain ⟨M,capb,rfl,-,-,-⟩:=h2.members.opened;have HC:=Lib.hid (fun (W:World) (gS gT gC:Nat) (hW:Ext w W) (hS:Blk W gS 74 #[.int .i64 s.limit,.slice A s.ships.length capa,.slice M s.members.length capb]) hT hC=>Y5q W B u ps gS gT gC _ _ s t cl (hu.below hW) hkn hlv hl hS ⟨_,_,rfl,h2.ext hW⟩ hT hC hV ht);obtain ⟨Au,cu,hsh,-⟩:=hu.shape;subst hsh;clear h2 hu hkn hlv hV ht;go_enter Tryz.func183,Tryz.ntmps183;go_wp2_with fail;change Calls _ _ _ (((w.alloc (.cells #[.int .i64 s.limit,.slice A s.ships.length capa,.slice M s.members.length capb] 74)).alloc (.cells #[.int .i64 (t:Int)] 3)).alloc (.cells #[.bool cl] 4)) _;obtain ⟨W,hWW,k0,k1,k2,HXW,eW⟩:=Y3i w 74 #[.int .i64 s.limit,.slice A s.ships.length capa,.slice M s.members.length capb] 3 #[.int .i64 (t:Int)] 4 #[.bool cl];rw [hWW];clear hWW;have K0:=Lib.hid k0;have K1:=Lib.hid (k1.cell 0);have K2:=Lib.hid (k2.cell 0);have HSW:=Lib.hid HXW.out.size;clear k0 k1 k2;refine (HC.out _ _ _ _ HXW.out K0.out K1.out K2.out).mono ?_;rintro e w5 ⟨x,rfl,hu,hx5⟩;have HU:=Lib.hid hu;have HX5:=Lib.hid hx5;clear hu hx5;go_wp2;go_ret;exact ⟨_,rfl,Q0u.weaken HU.out HSW.out,HXW.out.trans HX5.out⟩
end Go.Proofs
namespace Go.Tw
open Go.RowKit
variable {s:Q0b}
def under (s:Q0b) (t:Nat) (l:List Runner) (h:List Int):Bool:=l.any fun r=>decide (t < h.length) && (h == hs s r.member h.length)
def X6l (s:Q0b) (t:Nat) (l:List Runner):Nat:=s.hist.countP (under s t l)
theorem Q5a {t:Nat} {l:List Runner} {h:List Int}:under s t l h = true ↔ ∃ r ∈ l,t < h.length /\ h = hs s r.member h.length:=by
 unfold under; simp
theorem Y8s {α:Type} {p q:α -> Bool}:∀ {l:List α},(∀ x ∈ l,¬ (p x = true /\ q x = true)) -> l.countP (fun x=>p x || q x) = l.countP p + l.countP q
 | [],_=>rfl
 | x :: l,h=>by
   have ih:=Y8s (p:=p) (q:=q) (l:=l) fun y hy=>h y (List.mem_cons_of_mem _ hy);have hx:=h x List.mem_cons_self;simp only [List.countP_cons,ih];cases hp:p x <;> cases hq:q x <;> simp_all <;> omega
theorem Y7g {α:Type} {p q:α -> Bool}:∀ {l:List α},(∀ x ∈ l,p x = true -> q x = true) -> (∃ x ∈ l,q x = true /\ p x = false) -> l.countP p + 1 <= l.countP q
 | [],_,⟨x,hx,_⟩=>by simp at hx
 | y :: l,h,⟨x,hx,hq,hp⟩=>by
   simp only [List.countP_cons];have hle:l.countP p <= l.countP q:=List.countP_mono_left fun z hz=>h z (List.mem_cons_of_mem _ hz)
   rcases List.mem_cons.1 hx with rfl | hx'
   . rw [if_pos hq,if_neg (by rw [hp]; simp)]; omega
   . have ih:=Y7g (fun z hz=>h z (List.mem_cons_of_mem _ hz)) ⟨x,hx',hq,hp⟩
     have h0:=h y List.mem_cons_self
     by_cases hy:p y = true
     . rw [if_pos hy,if_pos (h0 hy)]; omega
     . rw [if_neg hy]; split <;> omega
theorem X7v (t u:Nat) (c:Bool) (l:List Runner):X6l s t (moved s u c l) = X6l s t l:=by
 unfold X6l
 congr 1
 funext h
 unfold under moved;rw [List.any_map]; rfl
theorem Y9w (t c:Nat) (l:List Runner):X6l s t (X5x s t (c + 1) l) = X6l s t (X5x s t c l) + X6l s t (Q7v s t c l):=by
 unfold X6l;rw [<- Y8s]
 . congr 1
   funext h
   rw [Bool.eq_iff_iff,Bool.or_eq_true,Q5a,Q5a,Q5a]
   constructor
   . rintro ⟨r,hr,h1,h2⟩
     have hr':=Q9x.1 hr
     by_cases hc:ix (Q0d s.members r.member) t < (c:Int)
     . exact .inl ⟨r,Q9x.2 ⟨hr'.1,hc⟩,h1,h2⟩
     . exact .inr ⟨r,X9g.2 ⟨hr'.1,by have:=hr'.2; omega⟩,h1,h2⟩
   . rintro (⟨r,hr,h1,h2⟩ | ⟨r,hr,h1,h2⟩)
     . exact ⟨r,X9m hr,h1,h2⟩
     . exact ⟨r,Z0w hr,h1,h2⟩
 . rintro h _ ⟨h1,h2⟩
   obtain ⟨r,hr,ht,e⟩:=Q5a.1 h1;obtain ⟨q,hq,_,e'⟩:=Q5a.1 h2;have hr':=Q9x.1 hr;have hq':=X9g.1 hq;have a1:=J4c (s:=s) (i:=r.member) ht;have a2:=J4c (s:=s) (i:=q.member) ht;rw [<- e] at a1;rw [<- e'] at a2;have:=hr'.2;have:=hq'.2;omega
theorem Z6t (hf:Fine s) {t:Nat} {l:List Runner} (hl:Known s l) (hn:l ≠ []) (ht:t + 1 <= s.ships.length):X6l s (t + 1) l + 1 <= X6l s t l:=by
 refine Y7g (fun h _ hh=>?_) ?_
 . obtain ⟨r,hr,h1,h2⟩:=Q5a.1 hh
   exact Q5a.2 ⟨r,hr,by omega,h2⟩
 . obtain ⟨r,rest,rfl⟩:=List.exists_cons_of_ne_nil hn
   have hr:=hl r List.mem_cons_self;have hle:=J0w hf hr ht;refine ⟨hs s r.member (t + 1),Z2e hr (by omega) ht,Q5a.2 ⟨r,List.mem_cons_self,by omega,by rw [hle]⟩,?_⟩
   rw [Bool.eq_false_iff];intro hh;obtain ⟨_,_,h1,_⟩:=Q5a.1 hh;omega
theorem Y4b (out:List Plan) (x:Plan):(Q1u out x).length <= out.length + 1:=by
 unfold Q1u
 split
 . omega
 . rw [List.length_append,List.length_singleton]
   have:=List.length_filter_le (fun o=>!x.Q4f o) out;omega
theorem X3g:∀ (l out:List Plan),(l.foldl Q1u out).length <= out.length + l.length
 | [],out=>by simp
 | x :: l,out=>by
   rw [List.foldl_cons,List.length_cons];have h1:=X3g l (Q1u out x);have h2:=Y4b out x;omega
theorem Y7m (l:List Plan):(X8r l).length <= l.length:=by
 have:=X3g l []
 simpa [X8r] using this
theorem J0u (a b:List Plan):(a.flatMap fun x=>b.map (both x)).length = a.length * b.length:=by
 induction a with
 | nil=>simp
 | cons x a ih=>rw [List.flatMap_cons,List.length_append,ih,List.length_map,List.length_cons,Nat.add_mul,Nat.one_mul,Nat.add_comm]
theorem Y7p (a b:List Plan):(together a b).length <= a.length * b.length:=by
 unfold together;exact Nat.le_trans (Y7m _) (Nat.le_of_eq (J0u a b))
structure PBd (k:Nat) (W:Int) (H:Nat) (x:Plan):Prop where
 w:0 <= x.weight /\ x.weight <= W
 c:0 <= x.closings /\ x.closings <= k * W
 d:0 <= x.delay /\ x.delay <= 1000 * (k * W)
 l:x.closed.length <= H
theorem PBd.both {k:Nat} {W V:Int} {H G:Nat} {x y:Plan} (hx:PBd k W H x) (hy:PBd k V G y):PBd k (W + V) (H + G) (both x y):=by
 have e:(k:Int) * (W + V) = k * W + k * V:=Int.mul_add _ _ _;obtain ⟨a,b,c,d⟩:=hx;obtain ⟨a',b',c',d'⟩:=hy
 constructor
 . show 0 <= x.weight + y.weight /\ x.weight + y.weight <= W + V; omega
 . show 0 <= x.closings + y.closings /\ x.closings + y.closings <= k * (W + V); rw [e]; omega
 . show 0 <= x.delay + y.delay /\ x.delay + y.delay <= 1000 * (k * (W + V)); rw [e]; omega
 . show (x.closed ++ y.closed).length <= H + G; rw [List.length_append]; omega
theorem PBd.mono {k:Nat} {W:Int} {H G:Nat} {x:Plan} (h:PBd k W H x) (hg:H <= G):PBd k W G x:=⟨h.w,h.c,h.d,Nat.le_trans h.l hg⟩
theorem PBd.up {k:Nat} {W:Int} {H:Nat} {x:Plan} (h:PBd k W H x) (hW:0 <= W):PBd (k + 1) W H x:=by
 have e:((k + 1:Nat):Int) * W = k * W + W:=by rw [Int.natCast_add,Int.add_mul]; simp
 refine ⟨h.w,?_,?_,h.l⟩
 . rw [e]; have:=h.c; omega
 . rw [e]; have:=h.d; omega
theorem PBd.close {k t:Nat} {l:List Runner} {H:Nat} {x:Plan} (h:PBd k (Q5s s l) H x) (hW:0 <= Q5s s l) (hd:0 <= ix s.ships t /\ ix s.ships t <= 1000):PBd (k + 1) (Q5s s l) (H + 1) (Y3q s t l x):=by
 have e:((k + 1:Nat):Int) * Q5s s l = k * Q5s s l + Q5s s l:=by rw [Int.natCast_add,Int.add_mul]; simp
 have m1:0 <= Q5s s l * ix s.ships t:=Int.mul_nonneg hW hd.1;have m2:Q5s s l * ix s.ships t <= Q5s s l * 1000:=Int.mul_le_mul_of_nonneg_left hd.2 hW;refine ⟨h.w,?_,?_,?_⟩
 . show 0 <= x.closings + Q5s s l /\ x.closings + Q5s s l <= _; rw [e]; have:=h.c; omega
 . show 0 <= x.delay + Q5s s l * ix s.ships t /\ x.delay + Q5s s l * ix s.ships t <= _; rw [e]; have:=h.d; omega
 . show (x.closed ++ [Y7n s t l]).length <= H + 1; rw [List.length_append]; have:=h.l; simp; omega
theorem X4u (t:Nat) (c:Bool) (l:List Runner):Q5s s (moved s t c l) = Q5s s l:=by
 unfold Q5s moved;rw [List.map_map]; rfl
theorem Y8j (hv:Q0m s) {i:Nat} (hi:i < s.members.length):0 <= Q0h s.members i:=by have:=(hv.weights i hi).1; omega
theorem Z1p (hv:Q0m s) {l:List Runner} (hl:Known s l):0 <= Q5s s l:=by
 unfold Q5s
 induction l with
 | nil=>simp
 | cons x l ih =>
   rw [List.map_cons,List.sum_cons];have h1:=Y8j hv (hl x List.mem_cons_self);have h2:=ih fun r hr=>hl r (List.mem_cons_of_mem _ hr);omega
theorem J5v (hv:Q0m s) {l:List Runner} (hl:Known s l):0 <= Y5d s l /\ Y5d s l <= Q5s s l:=by
 unfold Q5s Y5d
 induction l with
 | nil=>simp
 | cons x l ih =>
   rw [List.map_cons,List.sum_cons,List.map_cons,List.sum_cons];have h1:=Y8j hv (hl x List.mem_cons_self);have h2:=ih fun r hr=>hl r (List.mem_cons_of_mem _ hr)
   split <;> omega
theorem J1e {t c:Nat} {l:List Runner} (h:Known s l):Known s (X5x s t c l):=fun r hr=>h r (Q9x.1 hr).1
theorem Z5k (t c:Nat) (l:List Runner):Q5s s (X5x s t (c + 1) l) = Q5s s (X5x s t c l) + Q5s s (Q7v s t c l):=Q8v t c (fun x=>Q0h s.members x.member) l
def J6h (s:Q0b) (k:Nat) (sub:List Runner -> List Plan):Prop:=∀ l,Known s l -> Q8g s (s.ships.length - k) l -> (sub l).length <= 2 ^ X6l s (s.ships.length - k) l /\ ∀ x ∈ sub l,PBd k (Q5s s l) (X6l s (s.ships.length - k) l) x
theorem Y0u (hv:Q0m s) {k:Nat} (hk:k + 1 <= s.ships.length) {sub:List Runner -> List Plan} (ih:J6h s k sub) {l:List Runner} (hl:Known s l) (hn:l ≠ []) (hs':Q8g s (s.ships.length - k) l) :
    ((sub (moved s (s.ships.length - (k + 1)) false l)).length + (sub (moved s (s.ships.length - (k + 1)) true l)).length <= 2 ^ X6l s (s.ships.length - (k + 1)) l) /\
    (Q3v s (s.ships.length - (k + 1)) sub l).length <= 2 ^ X6l s (s.ships.length - (k + 1)) l /\ ∀ x ∈ Q3v s (s.ships.length - (k + 1)) sub l,PBd (k + 1) (Q5s s l) (X6l s (s.ships.length - (k + 1)) l) x:=by
 have e1:s.ships.length - (k + 1) + 1 = s.ships.length - k:=by omega
 have hu:=Z6t hv.toFine hl hn (t:=s.ships.length - (k + 1)) (by omega)
 rw [e1] at hu;obtain ⟨a1,a2⟩:=ih (moved s (s.ships.length - (k + 1)) false l) (Q3i hl) (Q3m hs');obtain ⟨b1,b2⟩:=ih (moved s (s.ships.length - (k + 1)) true l) (Q3i hl) (Q3m hs');rw [X7v] at a1 b1;have hp:2 ^ (X6l s (s.ships.length - k) l + 1) <= 2 ^ X6l s (s.ships.length - (k + 1)) l:=Nat.pow_le_pow_right (by omega) hu
 rw [Nat.pow_succ] at hp;have hW:=Z1p hv hl;refine ⟨by omega,?_,fun x hx=>?_⟩
 . unfold Q3v
   refine Nat.le_trans (Y7m _) ?_;rw [List.length_append,List.length_map];omega
 . unfold Q3v at hx
   rcases List.mem_append.1 (Y0z hx) with hx | hx
   . have:=a2 x hx
     rw [X7v,X4u] at this;exact (this.up hW).mono (by omega)
   . obtain ⟨y,hy,rfl⟩:=List.mem_map.1 hx
     have:=b2 y hy;rw [X7v,X4u] at this;have hlt:s.ships.length - (k + 1) < s.ships.length:=by omega
     exact (this.close hW (hv.delays _ (by rw [Q5p hlt]; exact List.getElem_mem hlt))).mono (by omega)
theorem Y5p (hv:Q0m s) {k:Nat} (hk:k + 1 <= s.ships.length) {sub:List Runner -> List Plan} (ih:J6h s k sub) {l:List Runner} (hl:Known s l)
    (hs':Q8g s (s.ships.length - (k + 1)) l):∀ c:Nat,(Q2f s (s.ships.length - (k + 1)) sub l c).length <= 2 ^ X6l s (s.ships.length - (k + 1)) (X5x s (s.ships.length - (k + 1)) c l) /\
     ∀ x ∈ Q2f s (s.ships.length - (k + 1)) sub l c,PBd (k + 1) (Q5s s (X5x s (s.ships.length - (k + 1)) c l)) (X6l s (s.ships.length - (k + 1)) (X5x s (s.ships.length - (k + 1)) c l)) x
 | 0=>by
   rw [Q2f,Y4n hv.toFine hl (by omega)]
   refine ⟨Nat.one_le_two_pow,fun x hx=>?_⟩;rw [List.mem_singleton] at hx;subst hx;refine ⟨⟨Int.le_refl _,?_⟩,⟨Int.le_refl _,?_⟩,⟨Int.le_refl _,?_⟩,Nat.zero_le _⟩ <;> simp [Q5s]
 | c + 1=>by
   have e1:s.ships.length - (k + 1) + 1 = s.ships.length - k:=by omega
   obtain ⟨h1,h2⟩:=Y5p hv hk ih hl hs' c;rw [Q2f,Y9w,Z5k]
   split
   . rename_i hn
     rw [hn];have hz:X6l s (s.ships.length - (k + 1)) [] = 0:=by
      unfold X6l;rw [List.countP_eq_zero];intro h _; simp [under]
     have hw:Q5s s [] = 0:=by simp [Q5s]
     rw [hz,hw,Nat.add_zero,Int.add_zero];exact ⟨h1,h2⟩
   . rename_i hn
     obtain ⟨_,g1,g2⟩:=Y0u hv hk ih (Q8f hl) hn (e1 ▸ X0h hv.toFine hl (by omega) hs')
     refine ⟨?_,fun x hx=>?_⟩
     . refine Nat.le_trans (Y7p _ _) ?_
       rw [Nat.pow_add];exact Nat.mul_le_mul h1 g1
     . obtain ⟨y,hy,z,hz,rfl⟩:=X6f hx
       exact (h2 y hy).both (g2 z hz)
theorem Q7c (hv:Q0m s):∀ k,k <= s.ships.length -> J6h s k (Q2d s k)
 | 0,_=>fun l hl _=>by
   have h:=J5v hv hl;refine ⟨Nat.one_le_two_pow,fun x hx=>?_⟩;rw [Q2d,List.mem_singleton] at hx;subst hx;exact ⟨h,⟨Int.le_refl _,by simp⟩,⟨Int.le_refl _,by simp⟩,Nat.zero_le _⟩
 | k + 1,hk=>fun l hl hs'=>by
   have:=Y5p hv hk (Q7c hv k (by omega)) hl hs' 10
   rw [Z2d hv.toFine hl (by omega)] at this
   exact this
theorem X8t (t:Nat) (l:List Runner):X6l s t l <= s.hist.length:=List.countP_le_length
end Go.Tw
