/- Part of the proof of a law. -/
import Derived.Test.YthnobngcipaljaaGreatDoorPk06
set_option maxRecDepth 1000000
set_option maxHeartbeats 64000000
set_option linter.unusedVariables false
set_option linter.unusedSimpArgs false
set_option linter.constructorNameAsVariable false
open Go.Lib (hid)
namespace Go.Tw
open Go.RowKit
theorem fzg07 {u:Type} {a b:u} (h:a=b:=by rw [hbb]; dsimp only; (try simp (discharger:=decide) only [Flow.eval_put_ne]); rw [Flow.Q0a (by (try simp only [Flow.size_put]); exact of_decide_eq_true rfl)]; try assumption):a=b:=h
theorem fze07 {u:Type} {a b:u} (h:a=b:=by rw [hbb]; dsimp only; (try simp (discharger:=decide) only [Flow.eval_put_ne]); rfl):a=b:=h
variable {s:Q0b}
def under (s:Q0b) (t:Nat) (l:List Runner) (h:List Int):Bool:=l.any fun r=>decide (t < h.length) && (h == hs s r.member h.length)
def X7d (s:Q0b) (t:Nat) (l:List Runner):Nat:=s.hist.countP (under s t l)
theorem Q5q {t:Nat} {l:List Runner} {h:List Int}:under s t l h=true ↔ ∃ r ∈ l,t < h.length /\ h=hs s r.member h.length:=by
 unfold under; simp
theorem Y9t {α:Type} {p q:α -> Bool}:∀ {l:List α},(∀ x ∈ l,¬ (p x=true /\ q x=true)) -> l.countP (fun x=>p x || q x)=l.countP p + l.countP q
 | [],_=>rfl
 | x :: l,h=>by
   have ih:=Y9t (p:=p) (q:=q) (l:=l) fun y hy=>h y (List.mem_cons_of_mem _ hy);have hx:=h x List.mem_cons_self;simp only [List.countP_cons,ih];cases hp:p x <;> cases hq:q x <;> simp_all <;> omega
theorem Y7z {α:Type} {p q:α -> Bool}:∀ {l:List α},(∀ x ∈ l,p x=true -> q x=true) -> (∃ x ∈ l,q x=true /\ p x=false) -> l.countP p + 1 <= l.countP q
 | [],_,⟨x,hx,_⟩=>by simp at hx
 | y :: l,h,⟨x,hx,hq,hp⟩=>by
   simp only [List.countP_cons];have Uv:l.countP p <= l.countP q:=List.countP_mono_left fun z hz=>h z (List.mem_cons_of_mem _ hz)
   rcases List.mem_cons.1 hx with rfl | hx'
   . rw [if_pos hq,if_neg (by rw [hp]; simp)]; omega
   . have ih:=Y7z (fun z hz=>h z (List.mem_cons_of_mem _ hz)) ⟨x,hx',hq,hp⟩
     have h0:=h y List.mem_cons_self
     by_cases hy:p y=true
     . rw [if_pos hy,if_pos (h0 hy)]; omega
     . rw [if_neg hy]; split <;> omega
theorem Y0i (t u:Nat) (c:Bool) (l:List Runner):X7d s t (moved s u c l)=X7d s t l:=by
 unfold X7d
 congr 1
 funext h
 unfold under moved;rw [List.any_map]; rfl
theorem Y9h (t c:Nat) (l:List Runner):X7d s t (X6l s t (c + 1) l)=X7d s t (X6l s t c l) + X7d s t (Q7y s t c l):=by
 unfold X7d;rw [<- Y9t]
 . congr 1
   funext h
   rw [Bool.eq_iff_iff,Bool.or_eq_true,Q5q,Q5q,Q5q]
   constructor
   . rintro ⟨r,hr,h1,h2⟩
     have S1:=Q9d.1 hr
     by_cases hc:ix (Q0c s.members r.member) t < (c:Int)
     . exact .inl ⟨r,Q9d.2 ⟨S1.1,hc⟩,h1,h2⟩
     . exact .inr ⟨r,Y0n.2 ⟨S1.1,by have:=S1.2; omega⟩,h1,h2⟩
   . rintro (⟨r,hr,h1,h2⟩ | ⟨r,hr,h1,h2⟩)
     . exact ⟨r,X9l hr,h1,h2⟩
     . exact ⟨r,Z2n hr,h1,h2⟩
 . rintro h _ ⟨h1,h2⟩
   obtain ⟨r,hr,ht,e⟩:=Q5q.1 h1;obtain ⟨q,hq,_,e'⟩:=Q5q.1 h2;have S1:=Q9d.1 hr;have G2:=Y0n.1 hq;have a1:=J3e (s:=s) (i:=r.member) ht;have a2:=J3e (s:=s) (i:=q.member) ht;rw [<- e] at a1;rw [<- e'] at a2;have:=S1.2;have:=G2.2;omega
theorem Z6b (hf:Fine s) {t:Nat} {l:List Runner} (hl:Known s l) (hn:l ≠ []) (ht:t + 1 <= s.ships.length):X7d s (t + 1) l + 1 <= X7d s t l:=by
 refine Y7z (fun h _ hh=>?_) ?_
 . obtain ⟨r,hr,h1,h2⟩:=Q5q.1 hh
   exact Q5q.2 ⟨r,hr,by omega,h2⟩
 . obtain ⟨r,rest,rfl⟩:=List.exists_cons_of_ne_nil hn
   have hr:=hl r List.mem_cons_self;have Uv:=J1c hf hr ht;refine ⟨hs s r.member (t + 1),J0i hr (by omega) ht,Q5q.2 ⟨r,List.mem_cons_self,by omega,by rw [Uv]⟩,?_⟩
   rw [Bool.eq_false_iff];intro hh;obtain ⟨_,_,h1,_⟩:=Q5q.1 hh;omega
theorem Y4s (out:List Plan) (x:Plan):(Q2n out x).length <= out.length + 1:=by
 unfold Q2n
 split
 . omega
 . rw [List.length_append,List.length_singleton]
   have:=List.length_filter_le (fun o=>!x.Q4y o) out;omega
theorem X4w:∀ (l out:List Plan),(l.foldl Q2n out).length <= out.length + l.length
 | [],out=>by simp
 | x :: l,out=>by
   rw [List.foldl_cons,List.length_cons];have h1:=X4w l (Q2n out x);have h2:=Y4s out x;omega
theorem Y8y (l:List Plan):(X8k l).length <= l.length:=by
 have:=X4w l []
 simpa [X8k] using this
theorem Z8b (a b:List Plan):(a.flatMap fun x=>b.map (both x)).length=a.length * b.length:=by
 induction a with
 | nil=>simp
 | cons x a ih=>rw [List.flatMap_cons,List.length_append,ih,List.length_map,List.length_cons,Nat.add_mul,Nat.one_mul,Nat.add_comm]
theorem Y7y (a b:List Plan):(together a b).length <= a.length * b.length:=by
 unfold together;exact Nat.le_trans (Y8y _) (Nat.le_of_eq (Z8b a b))
structure PBd (k:Nat) (W:Int) (H:Nat) (x:Plan):Prop where
 w:0 <= x.weight /\ x.weight <= W
 c:0 <= x.closings /\ x.closings <= k * W
 d:0 <= x.delay /\ x.delay <= 1000 * (k * W)
 l:x.closed.length <= H
theorem PBd.both {k:Nat} {W V:Int} {H G:Nat} {x y:Plan} (hx:PBd k W H x) (hy:PBd k V G y):PBd k (W + V) (H + G) (both x y):=by
 have e:(k:Int) * (W + V)=k * W + k * V:=Int.mul_add _ _ _;obtain ⟨a,b,c,d⟩:=hx;obtain ⟨a',b',c',d'⟩:=hy
 constructor
 . show 0 <= x.weight + y.weight /\ x.weight + y.weight <= W + V; omega
 . show 0 <= x.closings + y.closings /\ x.closings + y.closings <= k * (W + V); rw [e]; omega
 . show 0 <= x.delay + y.delay /\ x.delay + y.delay <= 1000 * (k * (W + V)); rw [e]; omega
 . show (x.closed ++ y.closed).length <= H + G; rw [List.length_append]; omega
theorem PBd.mono {k:Nat} {W:Int} {H G:Nat} {x:Plan} (h:PBd k W H x) (hg:H <= G):PBd k W G x:=⟨h.w,h.c,h.d,Nat.le_trans h.l hg⟩
theorem PBd.up {k:Nat} {W:Int} {H:Nat} {x:Plan} (h:PBd k W H x) (hW:0 <= W):PBd (k + 1) W H x:=by
 have e:((k + 1:Nat):Int) * W=k * W + W:=by rw [Int.natCast_add,Int.add_mul]; simp
 refine ⟨h.w,?_,?_,h.l⟩
 . rw [e]; have:=h.c; omega
 . rw [e]; have:=h.d; omega
theorem PBd.close {k t:Nat} {l:List Runner} {H:Nat} {x:Plan} (h:PBd k (Q6h s l) H x) (hW:0 <= Q6h s l) (hd:0 <= ix s.ships t /\ ix s.ships t <= 1000):PBd (k + 1) (Q6h s l) (H + 1) (Y3o s t l x):=by
 have e:((k + 1:Nat):Int) * Q6h s l=k * Q6h s l + Q6h s l:=by rw [Int.natCast_add,Int.add_mul]; simp
 have m1:0 <= Q6h s l * ix s.ships t:=Int.mul_nonneg hW hd.1;have m2:Q6h s l * ix s.ships t <= Q6h s l * 1000:=Int.mul_le_mul_of_nonneg_left hd.2 hW;refine ⟨h.w,?_,?_,?_⟩
 . show 0 <= x.closings + Q6h s l /\ x.closings + Q6h s l <= _; rw [e]; have:=h.c; omega
 . show 0 <= x.delay + Q6h s l * ix s.ships t /\ x.delay + Q6h s l * ix s.ships t <= _; rw [e]; have:=h.d; omega
 . show (x.closed ++ [Y9u s t l]).length <= H + 1; rw [List.length_append]; have:=h.l; simp; omega
theorem X5k (t:Nat) (c:Bool) (l:List Runner):Q6h s (moved s t c l)=Q6h s l:=by
 unfold Q6h moved;rw [List.map_map]; rfl
theorem Y9z (hv:Q0r s) {i:Nat} (hi:i < s.members.length):0 <= Q0n s.members i:=by have:=(hv.weights i hi).1; omega
theorem Z1u (hv:Q0r s) {l:List Runner} (hl:Known s l):0 <= Q6h s l:=by
 unfold Q6h
 induction l with
 | nil=>simp
 | cons x l ih =>
   rw [List.map_cons,List.sum_cons];have h1:=Y9z hv (hl x List.mem_cons_self);have h2:=ih fun r hr=>hl r (List.mem_cons_of_mem _ hr);omega
theorem J6l (hv:Q0r s) {l:List Runner} (hl:Known s l):0 <= Y5z s l /\ Y5z s l <= Q6h s l:=by
 unfold Q6h Y5z
 induction l with
 | nil=>simp
 | cons x l ih =>
   rw [List.map_cons,List.sum_cons,List.map_cons,List.sum_cons];have h1:=Y9z hv (hl x List.mem_cons_self);have h2:=ih fun r hr=>hl r (List.mem_cons_of_mem _ hr)
   split <;> omega
theorem Z8c {t c:Nat} {l:List Runner} (h:Known s l):Known s (X6l s t c l):=fun r hr=>h r (Q9d.1 hr).1
theorem Z4l (t c:Nat) (l:List Runner):Q6h s (X6l s t (c + 1) l)=Q6h s (X6l s t c l) + Q6h s (Q7y s t c l):=Q8m t c (fun x=>Q0n s.members x.member) l
def J7l (s:Q0b) (k:Nat) (sub:List Runner -> List Plan):Prop:=∀ l,Known s l -> Q7z s (s.ships.length - k) l -> (sub l).length <= 2 ^ X7d s (s.ships.length - k) l /\ ∀ x ∈ sub l,PBd k (Q6h s l) (X7d s (s.ships.length - k) l) x
theorem Y1b (hv:Q0r s) {k:Nat} (hk:k + 1 <= s.ships.length) {sub:List Runner -> List Plan} (ih:J7l s k sub) {l:List Runner} (hl:Known s l) (hn:l ≠ []) (Bk:Q7z s (s.ships.length - k) l) :
    ((sub (moved s (s.ships.length - (k + 1)) false l)).length + (sub (moved s (s.ships.length - (k + 1)) true l)).length <= 2 ^ X7d s (s.ships.length - (k + 1)) l) /\
    (Q4r s (s.ships.length - (k + 1)) sub l).length <= 2 ^ X7d s (s.ships.length - (k + 1)) l /\ ∀ x ∈ Q4r s (s.ships.length - (k + 1)) sub l,PBd (k + 1) (Q6h s l) (X7d s (s.ships.length - (k + 1)) l) x:=by
 have e1:s.ships.length - (k + 1) + 1=s.ships.length - k:=by omega
 have hu:=Z6b hv.toFine hl hn (t:=s.ships.length - (k + 1)) (by omega)
 rw [e1] at hu;obtain ⟨a1,a2⟩:=ih (moved s (s.ships.length - (k + 1)) false l) (Q3w hl) (Q4g Bk);obtain ⟨b1,b2⟩:=ih (moved s (s.ships.length - (k + 1)) true l) (Q3w hl) (Q4g Bk);rw [Y0i] at a1 b1;have hp:2 ^ (X7d s (s.ships.length - k) l + 1) <= 2 ^ X7d s (s.ships.length - (k + 1)) l:=Nat.pow_le_pow_right (by omega) hu
 rw [Nat.pow_succ] at hp;have hW:=Z1u hv hl;refine ⟨by omega,?_,fun x hx=>?_⟩
 . unfold Q4r
   refine Nat.le_trans (Y8y _) ?_;rw [List.length_append,List.length_map];omega
 . unfold Q4r at hx
   rcases List.mem_append.1 (X8w hx) with hx | hx
   . have:=a2 x hx
     rw [Y0i,X5k] at this;exact (this.up hW).mono (by omega)
   . obtain ⟨y,hy,rfl⟩:=List.mem_map.1 hx
     have:=b2 y hy;rw [Y0i,X5k] at this;have Uq:s.ships.length - (k + 1) < s.ships.length:=by omega
     exact (this.close hW (hv.delays _ (by rw [Q5g Uq]; exact List.getElem_mem Uq))).mono (by omega)
theorem Y4w (hv:Q0r s) {k:Nat} (hk:k + 1 <= s.ships.length) {sub:List Runner -> List Plan} (ih:J7l s k sub) {l:List Runner} (hl:Known s l)
    (Bk:Q7z s (s.ships.length - (k + 1)) l):∀ c:Nat,(Q2x s (s.ships.length - (k + 1)) sub l c).length <= 2 ^ X7d s (s.ships.length - (k + 1)) (X6l s (s.ships.length - (k + 1)) c l) /\
     ∀ x ∈ Q2x s (s.ships.length - (k + 1)) sub l c,PBd (k + 1) (Q6h s (X6l s (s.ships.length - (k + 1)) c l)) (X7d s (s.ships.length - (k + 1)) (X6l s (s.ships.length - (k + 1)) c l)) x
 | 0=>by
   rw [Q2x,Y5g hv.toFine hl (by omega)]
   refine ⟨Nat.one_le_two_pow,fun x hx=>?_⟩;rw [List.mem_singleton] at hx;subst hx;refine ⟨⟨Int.le_refl _,?_⟩,⟨Int.le_refl _,?_⟩,⟨Int.le_refl _,?_⟩,Nat.zero_le _⟩ <;> simp [Q6h]
 | c + 1=>by
   have e1:s.ships.length - (k + 1) + 1=s.ships.length - k:=by omega
   obtain ⟨h1,h2⟩:=Y4w hv hk ih hl Bk c;rw [Q2x,Y9h,Z4l]
   split
   . rename_i hn
     rw [hn];have hz:X7d s (s.ships.length - (k + 1)) []=0:=by
      unfold X7d;rw [List.countP_eq_zero];intro h _; simp [under]
     have hw:Q6h s []=0:=by simp [Q6h]
     rw [hz,hw,Nat.add_zero,Int.add_zero];exact ⟨h1,h2⟩
   . rename_i hn
     obtain ⟨_,g1,g2⟩:=Y1b hv hk ih (Q8d hl) hn (e1 ▸ Q9s hv.toFine hl (by omega) Bk)
     refine ⟨?_,fun x hx=>?_⟩
     . refine Nat.le_trans (Y7y _ _) ?_
       rw [Nat.pow_add];exact Nat.mul_le_mul h1 g1
     . obtain ⟨y,hy,z,hz,rfl⟩:=X6x hx
       exact (h2 y hy).both (g2 z hz)
theorem Q7p (hv:Q0r s):∀ k,k <= s.ships.length -> J7l s k (Q2v s k)
 | 0,_=>fun l hl _=>by
   have h:=J6l hv hl;refine ⟨Nat.one_le_two_pow,fun x hx=>?_⟩;rw [Q2v,List.mem_singleton] at hx;subst hx;exact ⟨h,⟨Int.le_refl _,by simp⟩,⟨Int.le_refl _,by simp⟩,Nat.zero_le _⟩
 | k + 1,hk=>fun l hl Bk=>by
   have:=Y4w hv hk (Q7p hv k (by omega)) hl Bk 10
   rw [Z1e hv.toFine hl (by omega)] at this
   exact this
theorem X8z (t:Nat) (l:List Runner):X7d s t l <= s.hist.length:=List.countP_le_length
end Go.Tw
namespace Go.Tw
open Go.RowKit Go.Flow
theorem Y5n {k:Nat} {W:Int} {H:Nat} {x:Plan} (h:PBd k W H x) (hk:k <= 6) (hW:0 <= W /\ W <= 8000) (hH:H <= 9):Proofs.Z6r x:=by
 have h1:(k:Int) * W <= 6 * 8000:=Int.mul_le_mul (by omega) hW.2 hW.1 (by omega)
 obtain ⟨a,b,c,d⟩:=h;exact ⟨by omega,by omega,by omega,by omega⟩
theorem Y5v {s:Q0b} (hV:Q0r s):∀ {l:List Runner},Known s l -> 0 <= Q6h s l /\ Q6h s l <= 1000 * l.length
 | [],_=>by simp [Q6h]
 | r :: l,h=>by
   have h1:=hV.weights r.member (h r List.mem_cons_self);have h2:=Y5v hV fun q hq=>h q (List.mem_cons_of_mem _ hq);have e:Q6h s (r :: l)=Q0n s.members r.member + Q6h s l:=by unfold Q6h; rw [List.map_cons,List.sum_cons]
   rw [e,List.length_cons];omega
theorem J1m {s:Q0b} {l:List Runner} {j:Nat} {r:Runner} (h:l[j]?=some r):Q6h s (l.take (j + 1))=Q6h s (l.take j) + Q0n s.members r.member:=by
 obtain ⟨hk,rfl⟩:=List.getElem?_eq_some_iff.1 h;unfold Q6h;rw [List.take_succ_eq_append_getElem hk,List.map_append,List.sum_append];simp
end Go.Tw
namespace Go.Proofs
open Go.RowKit Go.Tw Go.Flow Tryz
attribute [local go_sem] Oper.semAt_some
def Y7s (s:Q0b) (k:Nat):Prop:=∀ (w:World) (B:Nat) (u v:Value) (l:List Runner),Q0i w u s -> Q1d w B 233 3 encR v l -> Known s l -> Lev (s.ships.length - k) l -> Q7z s (s.ships.length - k) l -> l.length <= 8 ->
 Calls prog 157 #[u,.int .i64 ((s.ships.length - k:Nat):Int),v] w fun e w'=>∃ x qs,e=.returned x /\ Q1d w' w.heap.size 159 4 Q3g x qs /\ Q0v w' qs /\ qs.map (·.1)=Q2v s k l /\ Ext w w'
theorem X9g {P:Program} {K:Value -> World -> Prop} {o:Oper} {a:Act} {w:World} {f:FuncId} {x y z:Operand} {ts:Array TypeId} {u v t:Value} {R:Ending -> World -> Prop} (ho:o.op=.call { callee:=.value (.func f),args:=#[x,y,z],argTypes:=ts })
    (he:Enters P f) (hx:a.eval x=u) (hy:a.eval y=v) (hz:a.eval z=t) (h:Calls P f #[u,v,t] w R) (hk:∀ e w',R e w' -> ∃ z,e=.returned z /\ K z w'):gives P K ((execOp a.eval o).run P w):=by
 unfold execOp;simp only [ho,resolve,invoke,Sem.run_bind,List.map_toArray,List.map_cons,List.map_nil,hx,hy,hz];go_simp;rw [he];exact Q0e h hk
theorem Y0g {P:Program} {K:Value -> World -> Prop} {o:Oper} {a:Act} {w:World} {f:FuncId} {x y z q:Operand} {ts:Array TypeId} {u v t r:Value} {R:Ending -> World -> Prop} (ho:o.op=.call { callee:=.value (.func f),args:=#[x,y,z,q],argTypes:=ts })
    (he:Enters P f) (hx:a.eval x=u) (hy:a.eval y=v) (hz:a.eval z=t) (hq:a.eval q=r) (h:Calls P f #[u,v,t,r] w R) (hk:∀ e w',R e w' -> ∃ z,e=.returned z /\ K z w'):gives P K ((execOp a.eval o).run P w):=by
 unfold execOp;simp only [ho,resolve,invoke,Sem.run_bind,List.map_toArray,List.map_cons,List.map_nil,hx,hy,hz,hq];go_simp;rw [he];exact Q0e h hk
theorem Tryz.J3j (w:World):(sizeOf 3).run prog w=.ok 1 w:=by kernel_rfl
theorem Tryz.J2x (w:World):(sizeOf 9).run prog w=.ok 1 w:=by kernel_rfl
theorem Z7f (w:World) (B:Nat) (u v:Value) (s:Q0b) (k:Nat) (l:List Runner) (pg:Y7s s k) (hu:Q0i w u s) (hv:Q1d w B 233 3 encR v l) (hV:Q0r s) (nz:k + 1 <= s.ships.length) (hF:s.hist.length <= 9)
    (rj:Known s l) (Kw:Lev (s.ships.length - (k + 1)) l) (nj:Q7z s (s.ships.length - k) l) (hn:l ≠ []) (hl:l.length <= 8) :
    Calls prog 185 #[u,.int .i64 ((s.ships.length - (k + 1):Nat):Int),v] w fun e w'=>∃ x qs,e=.returned x /\ Q1d w' w.heap.size 159 4 Q3g x qs /\ Q0v w' qs /\ qs.map (·.1)=Q4r s (s.ships.length - (k + 1)) (Q2v s k) l /\ Ext w w':=by
 obtain ⟨aS,bS,rfl,h2⟩:=hu;obtain ⟨A,Tq,rfl,-,-,-⟩:=h2.ships.opened;obtain ⟨M,Vq,rfl,-,-,-⟩:=h2.members.opened;have h6:=hV.tides;have Sk:=Y1b hV nz (Q7p hV k (by omega)) rj hn nj
 obtain ⟨a1,a2⟩:=Q7p hV k (by omega) (moved s (s.ships.length - (k + 1)) false l) (Q3w rj) (Q4g nj)
 obtain ⟨b1,b2⟩:=Q7p hV k (by omega) (moved s (s.ships.length - (k + 1)) true l) (Q3w rj) (Q4g nj)
 have hW:=Y5v hV rj;have hp:2 ^ X7d s (s.ships.length - (k + 1)) l <= 2 ^ 9:=Nat.pow_le_pow_right (by omega) (Nat.le_trans (X8z _ _) hF)
 rw [X5k] at a2 b2;have A8:Hid (∀ x ∈ Q2v s k (moved s (s.ships.length - (k + 1)) false l),Z6r x):=hid (fun x hx=>Y5n (a2 x hx) (by omega) (by omega) (Nat.le_trans (X8z _ _) hF))
 have DQ:Hid (∀ x ∈ Q2v s k (moved s (s.ships.length - (k + 1)) true l),Z6r x):=hid (fun x hx=>Y5n (b2 x hx) (by omega) (by omega) (Nat.le_trans (X8z _ _) hF))
 have S7:Hid ((Q2v s k (moved s (s.ships.length - (k + 1)) false l)).length + (Q2v s k (moved s (s.ships.length - (k + 1)) true l)).length <= 512):=hid (by have:=Sk.1; omega)
 have P3:Hid (0 <= Q6h s l /\ Q6h s l <= 8000):=hid (by omega)
 clear Sk a1 a2 b1 b2 hp hW;have Ob:=hid pg;have e1:s.ships.length - k=s.ships.length - (k + 1) + 1:=by omega
 have O3:Hid (∀ (W:World) (v:Value) (c:Bool),Ext w W -> Q1d W 0 233 3 encR v (moved s (s.ships.length - (k + 1)) c l) ->
     Calls prog 157 #[.agg #[.int .i64 s.limit,.slice A s.ships.length Tq,.slice M s.members.length Vq],.int .i64 (((s.ships.length - (k + 1):Nat):Int) + 1),v] W fun e w'=>∃ x qs,e=.returned x /\ Q1d w' W.heap.size 159 4 Q3g x qs /\ Q0v w' qs /\ qs.map (·.1)=Q2v s k (moved s (s.ships.length - (k + 1)) c l) /\ Ext W w') :=
  hid (fun W v c hW hv=>by
   have h:=pg W 0 _ v _ ⟨_,_,rfl,h2.ext hW⟩ hv (Q3w rj) (by rw [e1]; exact J0x hV (by omega) rj Kw) (Q4g nj) (by rw [Y4n,List.length_map]; exact hl)
   rw [e1] at h;exact h)
 have y7:=hid (fun (W:World) (c:Bool) (hW:Ext w W)=>Z7v W B _ v l s (s.ships.length - (k + 1)) c ⟨_,_,rfl,h2.ext hW⟩ (hv.below hW) rj Kw (by omega) hV (by omega))
 have NX:=hV.delays (ix s.ships (s.ships.length - (k + 1))) (by rw [Q5g (by omega)]; exact List.getElem_mem _)
 have PK:Hid (Q4r s (s.ships.length - (k + 1)) (Q2v s k) l=X8k (Q2v s k (moved s (s.ships.length - (k + 1)) false l) ++ (Q2v s k (moved s (s.ships.length - (k + 1)) true l)).map (X9d s (s.ships.length - (k + 1)) (Q6h s l) (Y9u s (s.ships.length - (k + 1)) l)))):=hid rfl;obtain ⟨r0,rest,Nw⟩:=List.exists_cons_of_ne_nil hn;have Ak:=rj r0 (by rw [Nw]; exact List.mem_cons_self)
 have JQ:0 < l.length:=by rw [Nw]; simp
 have WX:l[0]?=some r0:=by rw [Nw]; rfl
 have OK:Hid (Y9u s (s.ships.length - (k + 1)) l=Q6j ((Q0c s.members r0.member).take (s.ships.length - (k + 1) + 1))):=hid (by rw [Nw]; rfl)
 have NK:=(hV.shaped r0.member Ak).1;have MX:=hV.digits r0.member Ak;have rg:s.ships.length - (k + 1) < s.ships.length:=by omega
 obtain ⟨t,ht⟩:∃ z,s.ships.length - (k + 1)=z:=⟨_,rfl⟩;rw [ht] at A8 DQ S7 O3 y7 PK OK NX rg ⊢;rw [PK.out];obtain ⟨P0,tf⟩:∃ z,Q2v s k (moved s t false l)=z:=⟨_,rfl⟩;obtain ⟨P1,sf⟩:∃ z,Q2v s k (moved s t true l)=z:=⟨_,rfl⟩;have Nb:=hid (fun (W:World) (v:Value) hW hv=>O3.out W v false hW hv);have Mb:=hid (fun (W:World) (v:Value) hW hv=>O3.out W v true hW hv);have nJ:=hid (fun (W:World) hW=>y7.out W false hW);have MK:=hid (fun (W:World) hW=>y7.out W true hW);rw [tf] at A8 S7 Nb ⊢;rw [sf] at DQ S7 Mb ⊢;obtain ⟨M0,LK⟩:∃ z,moved s t false l=z:=⟨_,rfl⟩;obtain ⟨M1,rf⟩:∃ z,moved s t true l=z:=⟨_,rfl⟩;rw [LK] at Nb nJ;rw [rf] at Mb MK;obtain ⟨key,KK⟩:∃ z,Y9u s t l=z:=⟨_,rfl⟩;rw [KK] at OK ⊢;have lQ:=hid h2;have kq:=hid hv;have kQ:=hid rj;have JK:=hid NX;have Lb:=hid NK;have O6:=hid MX;have HV:=hid hV;obtain ⟨Al,cl,EK,Gj⟩:=hv.reads Q8l;subst EK;have Rn:IntKind.i64.wrap ((t:Int) + 1)=(t:Int) + 1:=Q2j _ (by omega) (by omega)
 clear O3 y7 PK pg hv hF Kw nj hn tf sf LK rf KK h2 rj NX NK MX hV Ob e1 Nw;go_enter func185,ntmps185;go_wp2_with fail;change Code.wp _ _ _ _ ((w.alloc (.cells #[.int .i64 s.limit,.slice A s.ships.length Tq,.slice M s.members.length Vq] 34)).alloc (.cells #[.int .i64 (t:Int)] 3));obtain ⟨W,Mq,k0,k1,Rq,eW⟩:=Q4p w 34 #[.int .i64 s.limit,.slice A s.ships.length Tq,.slice M s.members.length Vq] 3 #[.int .i64 (t:Int)];rw [Mq];clear Mq;have K0:=hid k0;have K1:=hid k1;obtain ⟨gs,Rj⟩:∃ z,w.heap.size=z:=⟨_,rfl⟩;have rx:=hid Rj;rw [Rj] at K0 K1 eW ⊢;have DK:=hid (enters_of (P:=prog) func198 (by kernel_rfl) rfl)
 have CK:=hid (enters_of (P:=prog) func157 (by kernel_rfl) rfl)
 have Qn:=hid (enters_of (P:=prog) func102 (by kernel_rfl) rfl)
 clear k0 k1 Rj;have Xq:=(Ext.refl W).drew;refine Flow.Q1h [.w,.w,.p,.w,.w,.p,.w,.w,.p] [0,1,2,3,4,5,6,7,8] [[],[],[1],[],[],[],[3,4,5],[0,2,6],[0,1,2,3,4,5,6,7]]
  [.c 0 (.agg #[.int .i64 s.limit,.slice A s.ships.length Tq,.slice M s.members.length Vq]),.c 1 (.int .i64 (t:Int)),.c 2 (.int .i64 ((t:Int) + 1)),.c 3 (.agg #[.int .i64 s.limit,.slice A s.ships.length Tq,.slice M s.members.length Vq]),.c 4 (.int .i64 (t:Int)),.c 5 (.slice Al l.length cl),⟨fun v wz=>(fun v w'=>Q1d w' 0 233 3 encR (v 6) M0) v wz,by intro v a b hx h; exact Q1d.below h hx⟩,⟨fun v wz=>(fun v w'=>∃ qs,Q1d w' 0 159 4 Q3g (v 7) qs /\ Q0v w' qs /\ qs.map (·.1)=P0) v wz,by rintro v a b hx ⟨qs,h1,h2,h3⟩; exact ⟨qs,Q1d.below h1 hx,h2.ext hx,h3⟩⟩,.is 8 (fun v=>v 7)]
  (by kernel_rfl) rfl (by kernel_rfl) ⟨?g0,?g1,?g2,?g3,?g4,?g5,?g6,?g7,?g8,trivial⟩ ?post
 case g0 | g3=>
  intro v w1 hx;intro bb hbb;intro K hK;have o1:bb.eval (.tmp 3)=.pointer (some ⟨gs,0,none⟩):=fze07
  exact Q0k (.tmp 3) _ rfl X7u Q8v o1 (K0.out.ext (Xq.trans hx)) rfl (hK _ _ (Ext.refl _) rfl)
 case g1 | g4=>
  intro v w1 hx;intro bb hbb;subst hbb;have n0:w1.cell? ⟨gs + 1,0,none⟩=some (.int .i64 (t:Int)):=(K1.out.ext (Xq.trans hx)).cell 0;intro K hK;go_simp;exact hK _ _ (Ext.refl _) rfl
 case g2=>
  intro v w1 hx;(repeat intro (zq:v _=_));intro bb hbb;subst hbb;refine ⟨_,fun w=>?_,rfl⟩;go_simp
 case g5=>
  intro v w1 hx;intro bb hbb;subst hbb;refine ⟨_,fun w=>?_,rfl⟩;go_simp
 case g6=>
  intro v w1 hx;(repeat intro (zq:v _=_));intro bb hbb;intro K hK;have o1:bb.eval (.tmp 16)=.agg #[.int .i64 s.limit,.slice A s.ships.length Tq,.slice M s.members.length Vq]:=fzg07
  have o2:bb.eval (.tmp 17)=.int .i64 (t:Int):=fzg07
  have o3:bb.eval (.tmp 18)=.slice Al l.length cl:=fzg07
  refine Y0g rfl DK.out o1 o2 o3 rfl (nJ.out w1 (Rq.out.trans (Xq.trans hx))) ?_;rintro e w2 ⟨z,rfl,h1,h2⟩;exact ⟨_,rfl,hK _ _ h2 (Q1d.weaken h1 (Nat.zero_le _))⟩
 case g7=>
  intro v w1 hx (q0:v 0=_) (q2:v 2=_) (q6:(fun v w'=>Q1d w' 0 233 3 encR (v 6) M0) v w1);intro bb hbb;intro K hK;have o1:bb.eval (.tmp 13)=.agg #[.int .i64 s.limit,.slice A s.ships.length Tq,.slice M s.members.length Vq]:=fzg07
  have o2:bb.eval (.tmp 15)=.int .i64 ((t:Int) + 1):=fzg07
  have o3:bb.eval (.tmp 19)=v 6:=fzg07
  refine X9g rfl CK.out o1 o2 o3 (Nb.out w1 _ (Rq.out.trans (Xq.trans hx)) q6) ?_;rintro e w2 ⟨z,qs,rfl,h1,h2,h3,h4⟩;exact ⟨_,rfl,hK _ _ h4 ⟨qs,Q1d.weaken h1 (Nat.zero_le _),h2,h3⟩⟩
 case g8=>
  intro v w1 hx (q0:v 0=_) (q1:v 1=_) (q2:v 2=_) (q3:v 3=_) (q4:v 4=_) (q5:v 5=_) _ _;intro bb hbb;subst hbb;refine ⟨_,fun w=>?_,rfl⟩;go_simp
 case post =>
  intro v w1 hx (q0:v 0=_) (q1:v 1=_) (q2:v 2=_) (q3:v 3=_) (q4:v 4=_) (q5:v 5=_) (q6:(fun v w'=>Q1d w' 0 233 3 encR (v 6) M0) v w1) (q7:(fun v w'=>∃ qs,Q1d w' 0 159 4 Q3g (v 7) qs /\ Q0v w' qs /\ qs.map (·.1)=P0) v w1) (q8:v 8=v 7);simp only [Flow.All,Flow.acts,Act.put];go_simp;obtain ⟨qa,qf,uW,pf⟩:=q7;have Lq:=hid (Rq.out.trans (Xq.trans hx));have KA0:=hid (K0.out.ext (Xq.trans hx));have KA1:=hid (K1.out.ext (Xq.trans hx));have Kb:=hid qf;have nf:=hid uW;have mf:=hid pf;obtain ⟨wa,rfl⟩:∃ X,X=w1:=⟨_,rfl⟩;obtain ⟨va,lf⟩:∃ z,v 7=z:=⟨_,rfl⟩;rw [lf] at Kb ⊢;obtain ⟨vm,BK⟩:∃ z,v 6=z:=⟨_,rfl⟩
  try rw [BK]
  clear hx Xq qf uW pf lf BK q0 q1 q2 q3 q4 q5 q6;go_wp2;have Xq:=(Ext.refl wa).drew;refine Flow.Q1h [.w,.w,.p,.w,.w,.p,.w,.w,.p] [0,1,2,3,4,5,6,7,8] [[],[],[1],[],[],[],[3,4,5],[0,2,6],[0,1,2,3,4,5,6,7]]
   [.c 0 (.agg #[.int .i64 s.limit,.slice A s.ships.length Tq,.slice M s.members.length Vq]),.c 1 (.int .i64 (t:Int)),.c 2 (.int .i64 ((t:Int) + 1)),.c 3 (.agg #[.int .i64 s.limit,.slice A s.ships.length Tq,.slice M s.members.length Vq]),.c 4 (.int .i64 (t:Int)),.c 5 (.slice Al l.length cl),⟨fun v wz=>(fun v w'=>Q1d w' 0 233 3 encR (v 6) M1) v wz,by intro v a b hx h; exact Q1d.below h hx⟩,⟨fun v wz=>(fun v w'=>∃ qs,Q1d w' 0 159 4 Q3g (v 7) qs /\ Q0v w' qs /\ qs.map (·.1)=P1) v wz,by rintro v a b hx ⟨qs,h1,h2,h3⟩; exact ⟨qs,Q1d.below h1 hx,h2.ext hx,h3⟩⟩,.is 8 (fun v=>v 7)]
   (by kernel_rfl) rfl (by kernel_rfl) ⟨?g0,?g1,?g2,?g3,?g4,?g5,?g6,?g7,?g8,trivial⟩ ?post
  case g0 | g3=>
   intro v w1 hx;intro bb hbb;intro K hK;have o1:bb.eval (.tmp 3)=.pointer (some ⟨gs,0,none⟩):=fze07
   exact Q0k (.tmp 3) _ rfl X7u Q8v o1 (KA0.out.ext (Xq.trans hx)) rfl (hK _ _ (Ext.refl _) rfl)
  case g1 | g4=>
   intro v w1 hx;intro bb hbb;subst hbb;have n0:w1.cell? ⟨gs + 1,0,none⟩=some (.int .i64 (t:Int)):=(KA1.out.ext (Xq.trans hx)).cell 0;intro K hK;go_simp;exact hK _ _ (Ext.refl _) rfl
  case g2=>
   intro v w1 hx;(repeat intro (zq:v _=_));intro bb hbb;subst hbb;refine ⟨_,fun w=>?_,rfl⟩;go_simp
  case g5=>
   intro v w1 hx;intro bb hbb;subst hbb;refine ⟨_,fun w=>?_,rfl⟩;go_simp
  case g6=>
   intro v w1 hx;(repeat intro (zq:v _=_));intro bb hbb;intro K hK;have o1:bb.eval (.tmp 24)=.agg #[.int .i64 s.limit,.slice A s.ships.length Tq,.slice M s.members.length Vq]:=fzg07
   have o2:bb.eval (.tmp 25)=.int .i64 (t:Int):=fzg07
   have o3:bb.eval (.tmp 26)=.slice Al l.length cl:=fzg07
   refine Y0g rfl DK.out o1 o2 o3 rfl (MK.out w1 (Lq.out.trans (Xq.trans hx))) ?_;rintro e w2 ⟨z,rfl,h1,h2⟩;exact ⟨_,rfl,hK _ _ h2 (Q1d.weaken h1 (Nat.zero_le _))⟩
  case g7=>
   intro v w1 hx (q0:v 0=_) (q2:v 2=_) (q6:(fun v w'=>Q1d w' 0 233 3 encR (v 6) M1) v w1);intro bb hbb;intro K hK;have o1:bb.eval (.tmp 21)=.agg #[.int .i64 s.limit,.slice A s.ships.length Tq,.slice M s.members.length Vq]:=fzg07
   have o2:bb.eval (.tmp 23)=.int .i64 ((t:Int) + 1):=fzg07
   have o3:bb.eval (.tmp 27)=v 6:=fzg07
   refine X9g rfl CK.out o1 o2 o3 (Mb.out w1 _ (Lq.out.trans (Xq.trans hx)) q6) ?_;rintro e w2 ⟨z,qs,rfl,h1,h2,h3,h4⟩;exact ⟨_,rfl,hK _ _ h4 ⟨qs,Q1d.weaken h1 (Nat.zero_le _),h2,h3⟩⟩
  case g8=>
   intro v w1 hx (q0:v 0=_) (q1:v 1=_) (q2:v 2=_) (q3:v 3=_) (q4:v 4=_) (q5:v 5=_) _ _;intro bb hbb;subst hbb;refine ⟨_,fun w=>?_,rfl⟩;go_simp
  case post =>
   intro v w1 hx (q0:v 0=_) (q1:v 1=_) (q2:v 2=_) (q3:v 3=_) (q4:v 4=_) (q5:v 5=_) (q6:(fun v w'=>Q1d w' 0 233 3 encR (v 6) M1) v w1) (q7:(fun v w'=>∃ qs,Q1d w' 0 159 4 Q3g (v 7) qs /\ Q0v w' qs /\ qs.map (·.1)=P1) v w1) (q8:v 8=v 7);simp only [Flow.All,Flow.acts,Act.put];go_simp;obtain ⟨qb,yz,mz,zk⟩:=q7;have Z0:=Xq.trans hx;have jq:=hid (Lq.out.trans Z0);have Jb:=hid (Q1d.below Kb.out Z0);have Gb:=hid (nf.out.ext Z0);have KB0:=hid (KA0.out.ext Z0);have KB1:=hid (KA1.out.ext Z0);have jk:=hid yz;have E2:=hid mz;have O1:=hid zk;obtain ⟨wb,rfl⟩:∃ X,X=w1:=⟨_,rfl⟩;obtain ⟨vb,kf⟩:∃ z,v 7=z:=⟨_,rfl⟩;rw [kf] at jk ⊢;obtain ⟨vm2,BK⟩:∃ z,v 6=z:=⟨_,rfl⟩
   try rw [BK]
   clear hx Xq Z0 yz mz zk kf BK q0 q1 q2 q3 q4 q5 q6 Kb nf KA0 KA1;go_wp2;have kN:=Blk.made wb 3 #[.int .i64 0];have Fb:=Ext.box wb (.cells #[.int .i64 0] 3);obtain ⟨wn,yW⟩:∃ z,wb.alloc (.cells #[.int .i64 0] 3)=z:=⟨_,rfl⟩;rw [yW] at kN Fb ⊢;obtain ⟨gn,VY⟩:∃ z,wb.heap.size=z:=⟨_,rfl⟩;have Pn:=hid VY;rw [VY] at kN ⊢;have KN:=hid kN;have On:=hid Fb;clear yW VY kN Fb
   go_loopw [31] (fun i wr=>∃ (j:Nat),j <= l.length /\ i=.int .i64 j /\ Ext wb wr /\ Blk wr gn 3 #[.int .i64 (Q6h s (l.take j))]) (fun i _=>l.length - (intOf i).toNat)
   case atStart=>exact ⟨0,Nat.zero_le _,rfl,On.out,by simpa [Q6h] using KN.out⟩
   case round =>
    obtain ⟨j,hj,rfl,hx,Eb⟩:=hrel;have HX:=hid hx;have t6:=hid Eb
    by_cases Uq:j < l.length
    . obtain ⟨gl,rfl,Wq⟩:=Gj.out j Uq
      have Gx:=jq.out.trans hx;have Yy:=hid Gx;have e0:=Gx.cell (Wq 0 (by omega))
      have e1:=Gx.cell (Wq 1 (by omega))
      have e2:=Gx.cell (Wq 2 (by omega))
      have Jw:=kQ.out _ (List.getElem_mem Uq);have hsm:=J1m (s:=s) (List.getElem?_eq_getElem Uq);obtain ⟨r,hr⟩:∃ z,l[j]=z:=⟨_,rfl⟩;rw [hr] at e0 e1 e2 Jw hsm;obtain ⟨i,Jv⟩:∃ z,r.member=z:=⟨_,rfl⟩;obtain ⟨r2,Ck⟩:∃ z,r.level=z:=⟨_,rfl⟩;obtain ⟨r3,s6⟩:∃ z,r.dry=z:=⟨_,rfl⟩;rw [Jv] at Jw hsm;replace e0:wr.cell? ⟨gl,j * 3,none⟩=some (.int .i64 (i:Int)):=by rw [<- Jv]; exact e0
      replace e1:wr.cell? ⟨gl,j * 3 + 1,none⟩=some (.int .i64 r2):=by rw [<- Ck]; exact e1
      replace e2:wr.cell? ⟨gl,j * 3 + 2,none⟩=some (.bool r3):=by rw [<- s6]; exact e2
      obtain ⟨bm,off,Sq,Jq,Cq,X,Y,Z,hm⟩:=Q3e lQ.out.members Jw;obtain rfl:=hm.addr;have rq:=Gx.cell hm.e1;have AK:=HV.out.weights i Jw;have V0:(i:Int) < s.members.length:=by omega
      have M8:(j:Int) < l.length:=by omega
      have O5:=Y5v HV.out (l:=l.take j) (fun q hq=>kQ.out q (List.mem_of_mem_take hq));have jQ:(l.take j).length <= 8:=by rw [List.length_take]; omega
      obtain ⟨wt,lq⟩:∃ z,Q0n s.members i=z:=⟨_,rfl⟩;rw [lq] at rq AK hsm;obtain ⟨sm,V2⟩:∃ z,Q6h s (l.take j)=z:=⟨_,rfl⟩;rw [V2] at t6 O5 hsm;have o8:IntKind.i64.wrap (sm + wt)=sm + wt:=Q2j _ (by omega) (by omega)
      have Xg:=hid hsm;have Kg:=hid rq;have Bq:=Ext.box wr (.cells #[.int .i64 (i:Int),.int .i64 r2,.bool r3] 233);have K3:=Blk.made wr 233 #[.int .i64 (i:Int),.int .i64 r2,.bool r3];have uz:=hid Bq;clear Wq hr Jv Ck s6 hm AK O5 jQ lq V2 hsm rq Bq Gx hx Eb Jw
      go_light
      go_wp2;obtain ⟨wc,M2⟩:∃ z,wr.alloc (.cells #[.int .i64 (i:Int),.int .i64 r2,.bool r3] 233)=z:=⟨_,rfl⟩;rw [M2] at K3 uz ⊢;obtain ⟨gr,Qw⟩:∃ z,wr.heap.size=z:=⟨_,rfl⟩;rw [Qw] at K3 ⊢;have KR:=hid K3;have Xq:=(Ext.refl wc).drew;clear M2 Qw K3 e0 e1 e2;refine Flow.Q3q [.w,.p,.w,.p,.w,.p,.p,.w,.p,.last] [0,1,2,3,4,5,6,7,8,9] [[],[],[1],[],[3],[1,2,3,4],[1,2,3,4,5],[1,2,3,4,5,6],[0,1,2,3,4,5,6,7],[0,1,2,3,4,5,6,7,8]] [9]
       [.c 0 (.int .i64 sm),.c 1 (.pointer (some ⟨gs,2,none⟩)),.c 2 (.slice (some ⟨bm,off,none⟩) s.members.length Vq),.c 3 (.pointer (some ⟨gr,0,none⟩)),.c 4 (.int .i64 (i:Int)),.c 5 (.pointer (some ⟨bm,off + i * 5,none⟩)),.c 6 (.pointer (some ⟨bm,off + i * 5 + 1,none⟩)),.c 7 (.int .i64 wt),.c 8 (.int .i64 (sm + wt)),.none]
       [fun v w1 w'=>Blk w' gn 3 #[.int .i64 (sm + wt)] /\ (∀ n,n <= gn -> Below n w1 w')] (by kernel_rfl) rfl (by kernel_rfl) ⟨?g0,?g1,?g2,?g3,?g4,?g5,?g6,?g7,?g8,?g9,trivial⟩ ?post
      case g0=>
       intro v w1 hx;intro bb hbb;subst hbb;have n0:w1.cell? ⟨gn,0,none⟩=some (.int .i64 sm):=(t6.out.ext (uz.out.trans (Xq.trans hx))).cell 0;intro K hK;go_simp;exact hK _ _ (Ext.refl _) rfl
      case g1 | g3=>
       intro v w1 hx;intro bb hbb;subst hbb;refine ⟨_,fun w=>?_,rfl⟩;go_simp
      case g2 | g4 | g7=>
       intro v w1 hx;(repeat intro (zq:v _=_));intro bb hbb;subst hbb;have n0:w1.cell? ⟨gs,2,none⟩=some (.slice (some ⟨bm,off,none⟩) s.members.length Vq):=(KB0.out.ext (HX.out.trans (uz.out.trans (Xq.trans hx)))).cell 2;have n1:w1.cell? ⟨gr,0,none⟩=some (.int .i64 (i:Int)):=(KR.out.ext (Xq.trans hx)).cell 0;have n2:w1.cell? ⟨bm,off + i * 5 + 1,none⟩=some (.int .i64 wt):=(uz.out.trans (Xq.trans hx)).cell Kg.out;intro K hK;go_simp;exact hK _ _ (Ext.refl _) rfl
      case g5 | g6 | g8=>
       intro v w1 hx;(repeat intro (zq:v _=_));intro bb hbb;subst hbb;refine ⟨_,fun w=>?_,rfl⟩;go_simp
      case g9=>
       intro v w1 hx;(repeat intro (zq:v _=_));intro wl hT;obtain rfl:wl=w1:=hT;intro bb hbb;intro K hK;have o1:bb.eval (.tmp 9)=.pointer (some ⟨gn,0,none⟩):=fze07
       have o2:bb.eval (.tmp 43)=.int .i64 (sm + wt):=fzg07
       have mx:=t6.out.ext (uz.out.trans (Xq.trans hx));exact Q3t (.tmp 9) (.tmp 43) rfl J3j o1 o2 rfl rfl mx Nat.zero_lt_one (fun vv=>hK _ _ ⟨mx.set 0 _,fun n hn=>(Below.refl n wl).setCell (p:=⟨gn,0,none⟩) hn _⟩)
      case post =>
       intro v w1 hx;(iterate 9 intro (zq:v _=_));intro w2 hE;replace hE:(fun v w1 w'=>Blk w' gn 3 #[.int .i64 (sm + wt)] /\ (∀ n,n <= gn -> Below n w1 w')) v w1 w2:=hE;simp only [Flow.acts,Act.put];go_simp;obtain ⟨Nj,Wj⟩:=hE;have uj:Hid (Ext wb w2):=hid (Below.trans (HX.out.trans (uz.out.trans (Xq.trans hx))) (Wj _ (by rw [Pn.out]; exact Nat.le_refl _)))
       have sg:=hid Nj;clear hx Xq Nj Wj;(repeat clear zq);go_wp2;go_roundw
       case rel=>exact ⟨j + 1,by omega,by go_num,uj.out,by rw [Xg.out]; exact sg.out⟩
       case measure=>simp [intOf]; omega
    . have U7:j=l.length:=by omega
      subst U7;rw [List.take_length] at t6;go_wp2;obtain ⟨gl,rfl,Wq⟩:=Gj.out 0 JQ;have Gx:=jq.out.trans hx;have e0:=Gx.cell (Wq 0 (by omega))
      have hr:l[0]=r0:=by
       have h:=List.getElem?_eq_getElem JQ;rw [WX] at h;exact (Option.some.inj h).symm
      rw [hr] at e0;obtain ⟨i,Jv⟩:∃ z,r0.member=z:=⟨_,rfl⟩;rw [Jv] at OK Ak;replace e0:wr.cell? ⟨gl,0,none⟩=some (.int .i64 (i:Int)):=by rw [<- Jv]; exact e0
      have Nz:=hid e0;obtain ⟨bm,off,Sq,Jq,Cq,X,Y,Z,hm⟩:=Q3e lQ.out.members Ak;obtain rfl:=hm.addr;have hcl:=Lb.out;have MX:=O6.out;rw [Jv] at hcl MX;have Wx:=hm.x;have N5:t < (Q0c s.members i).length:=by omega
      obtain ⟨X',capx',L1,-,vj,L8⟩:=Wx.opened;injection L1 with L1 Db iQ;subst L1;subst iQ;obtain ⟨bc,oc,L1,-⟩:=L8 t N5;subst L1;have Kg:=hid (Gx.cell hm.e2);have ky:Hid (Q0g w (.slice (some ⟨bc,oc,none⟩) (t + 1) Sq) ((Q0c s.members i).take (t + 1))):=hid (Q9n Wx (by omega))
      have Rk:Hid (((Q0c s.members i).take (t + 1)).length <= 4096):=hid (by rw [List.length_take]; omega)
      have XQ:=hid (Q5w MX (t + 1));have V0:(i:Int) < s.members.length:=by omega
      have Nn:(0:Int) < l.length:=by omega
      have i9:t + 1 <= Sq:=by omega
      have TZ:(t:Int) + 1 <= (Sq:Int):=by omega
      have d9:¬ ((0:Int) <= (t:Int) + 1 -> (Sq:Int) < (t:Int) + 1):=by omega
      have b9:¬ Sq=0:=by omega
      have ZQ:¬ (t:Int) + 1 < 0:=by omega
      have YQ:((t:Int) + 1).toNat=t + 1:=by omega
      obtain ⟨lp,K8⟩:∃ x,(Q0c s.members i).take (t + 1)=x:=⟨_,rfl⟩;rw [K8] at ky Rk XQ OK;obtain ⟨lc,M5⟩:∃ x,(Q0c s.members i).length=x:=⟨_,rfl⟩;rw [M5] at Kg;have Yy:=hid Gx;have Xq:=(Ext.refl wr).drew;clear Wq Gx hm Wx hr Jv hcl MX vj L8 K8 M5 N5 e0 hx Eb WX;refine Flow.Q3q [.p,.w,.p,.p,.p,.w,.p,.p,.w,.w,.p,.p,.w,.w,.last] [0,1,2,3,4,5,6,7,8,9,10,11,12,13,14] [[],[0],[],[2],[2,3],[2,3,4],[0,1,2,3,4,5],[0,1,2,3,4,5,6],[0,1,2,3,4,5,6,7],[],[9],[0,1,2,3,4,5,6,7,8,9,10],[0,1,2,3,4,5,6,7,8,9,10,11],[],[0,1,2,3,4,5,6,7,8,9,10,11,12,13]] [14]
       [.c 0 (.pointer (some ⟨gs,2,none⟩)),.c 1 (.slice (some ⟨bm,off,none⟩) s.members.length Vq),.c 2 (.slice (some ⟨gl,0,none⟩) l.length cl),.c 3 (.pointer (some ⟨gl,0,none⟩)),.c 4 (.pointer (some ⟨gl,0,none⟩)),.c 5 (.int .i64 (i:Int)),.c 6 (.pointer (some ⟨bm,off + i * 5,none⟩)),.c 7 (.pointer (some ⟨bm,off + i * 5 + 2,none⟩)),.c 8 (.slice (some ⟨bc,oc,none⟩) lc Sq),.c 9 (.int .i64 (t:Int)),.c 10 (.int .i64 ((t:Int) + 1)),.c 11 (.slice (some ⟨bc,oc,none⟩) (t + 1) Sq),.c 12 (.string (Q6j lp)),⟨fun v wz=>(fun v w'=>∃ g z,v 13=.pointer (some ⟨g,0,none⟩) /\ Blk w' g 9 #[z] /\ wr.heap.size <= g) v wz,by rintro v a b hx ⟨g,z,h1,h2,h3⟩; exact ⟨g,z,h1,h2.ext hx,h3⟩⟩,.none]
       [fun v w1 w'=>∃ g,v 13=.pointer (some ⟨g,0,none⟩) /\ Blk w' g 9 #[.string (Q6j lp)] /\ (∀ n,n <= g -> Below n w1 w') /\ wr.heap.size <= g] (by kernel_rfl) rfl (by kernel_rfl) ⟨?g0,?g1,?g2,?g3,?g4,?g5,?g6,?g7,?g8,?g9,?g10,?g11,?g12,?g13,?g14,trivial⟩ ?post
      case g0 | g2=>
       intro v w1 hx;intro bb hbb;subst hbb;refine ⟨_,fun w=>?_,rfl⟩;go_simp
      case g1 | g5 | g8=>
       intro v w1 hx;(repeat intro (zq:v _=_));intro bb hbb;subst hbb;have n0:w1.cell? ⟨gs,2,none⟩=some (.slice (some ⟨bm,off,none⟩) s.members.length Vq):=(KB0.out.ext (HX.out.trans (Xq.trans hx))).cell 2;have n1:w1.cell? ⟨gl,0,none⟩=some (.int .i64 (i:Int)):=(Xq.trans hx).cell Nz.out;have n2:w1.cell? ⟨bm,off + i * 5 + 2,none⟩=some (.slice (some ⟨bc,oc,none⟩) lc Sq):=(Xq.trans hx).cell Kg.out;intro K hK;go_simp;exact hK _ _ (Ext.refl _) rfl
      case g3 | g4 | g6 | g7 | g10 | g11=>
       intro v w1 hx;(repeat intro (zq:v _=_));intro bb hbb;subst hbb;refine ⟨_,fun w=>?_,rfl⟩;go_simp
      case g9=>
       intro v w1 hx;intro bb hbb;subst hbb;have n0:w1.cell? ⟨gs + 1,0,none⟩=some (.int .i64 (t:Int)):=(KB1.out.ext (HX.out.trans (Xq.trans hx))).cell 0;intro K hK;go_simp;exact hK _ _ (Ext.refl _) rfl
      case g12=>
       intro v w1 hx;(repeat intro (zq:v _=_));intro bb hbb;subst hbb;intro K hK;go_simp;refine Q0e (X9b w1 _ lp (ky.out.ext (Yy.out.trans (Xq.trans hx))) Rk.out XQ.out) ?_;rintro e w2 ⟨rfl,Nq⟩;exact ⟨_,rfl,hK _ _ Nq rfl⟩
      case g13=>
       intro v w1 hx;intro bb hbb;subst hbb;intro K hK;go_simp;exact hK _ _ (Ext.box _ _) ⟨_,_,rfl,Blk.made _ _ _,(Xq.trans hx).size⟩
      case g14=>
       intro v w1 hx (q0:v 0=_) (q1:v 1=_) (q2:v 2=_) (q3:v 3=_) (q4:v 4=_) (q5:v 5=_) (q6:v 6=_) (q7:v 7=_) (q8:v 8=_) (q9:v 9=_) (q10:v 10=_) (q11:v 11=_) (q12:v 12=_) (q13:(fun v w'=>∃ g z,v 13=.pointer (some ⟨g,0,none⟩) /\ Blk w' g 9 #[z] /\ wr.heap.size <= g) v w1);intro wl hT;obtain rfl:wl=w1:=hT;intro bb hbb;intro K hK;obtain ⟨g,z,e13,Q3,L5⟩:=q13;have o1:bb.eval (.tmp 12)=.pointer (some ⟨g,0,none⟩):=fzg07
       have o2:bb.eval (.tmp 57)=.string (Q6j lp):=fzg07
       exact Q3t (.tmp 12) (.tmp 57) rfl J2x o1 o2 rfl rfl Q3 Nat.zero_lt_one (fun vv=>hK _ _ ⟨g,e13,Q3.set 0 _,fun n hn=>(Below.refl n wl).setCell (p:=⟨g,0,none⟩) hn _,L5⟩)
      case post =>
       intro v w1 hx;(iterate 13 intro (zq:v _=_));intro (q13:(fun v w'=>∃ g z,v 13=.pointer (some ⟨g,0,none⟩) /\ Blk w' g 9 #[z] /\ wr.heap.size <= g) v w1);intro w2 hE;replace hE:(fun v w1 w'=>∃ g,v 13=.pointer (some ⟨g,0,none⟩) /\ Blk w' g 9 #[.string (Q6j lp)] /\ (∀ n,n <= g -> Below n w1 w') /\ wr.heap.size <= g) v w1 w2:=hE;simp only [Flow.acts,Act.put];go_simp;obtain ⟨gk,e13,xj,Wj,oq⟩:=hE;have qv:Ext wr w2:=Below.trans (Xq.trans hx) (Wj _ oq);have Gx:=Yy.out.trans qv;have hxb:=HX.out.trans qv;have bJ:=Q1d.below Jb.out hxb;obtain ⟨Aa,ca,Mn,-⟩:=bJ.shape;subst Mn;have LX:=Q1d.below jk.out hxb;have M7:=hid bJ;have T3:=hid (Gb.out.ext hxb);have mw:qa.length + qb.length <= 512:=by
        have h1:=S7.out;rw [<- mf.out,<- O1.out,List.length_map,List.length_map] at h1;exact h1
       have cW:=hid mw;have Cb:=hid (Y4r w2 0 vb qb gs (gs + 1) gn gk _ _ s t (Q6h s l) key LX (E2.out.ext hxb) (fun q hq=>DQ.out _ (by rw [<- O1.out]; exact List.mem_map_of_mem hq)) (by omega) (KB0.out.ext hxb) ⟨_,_,rfl,lQ.out.ext Gx⟩ ((KB1.out.ext hxb).cell 0) ((t6.out.ext qv).cell 0)
        (by rw [OK.out]; exact xj.cell 0) rg (by have:=P3.out; omega) JK.out)
       have og:=hid Gx;rw [e13];obtain ⟨Ab,cb,FY,-⟩:=LX.shape;subst FY;clear hx Xq qv Gx hxb bJ LX mw xj Wj oq e13 q13;(repeat clear zq);go_wp2_with (go_at_call 200; refine Cb.out.mono ?_; rintro e w5 ⟨x5,qs5,rfl,h1,h2,h3,h4⟩; refine halted ?_);have tZ:=hid h1;have WY:=hid h2;have Bb:=hid h3;have vq:=hid h4;obtain ⟨A5,c5,S4,-⟩:=h1.shape;subst S4;have jf:Hid (qs5.length=qb.length):=hid (by
        have:=congrArg List.length h3;rw [List.length_map,List.length_map,List.length_map] at this;exact this)
       have EY:=Ext.box w5 (.cells #[.slice Aa qa.length ca,.slice A5 qs5.length c5] 160);have zb:=hid EY;have Y0:=hid (Z0l (w5.alloc (.cells #[.slice Aa qa.length ca,.slice A5 qs5.length c5] 160)) w5.heap.size 160 _ _ 0 _ qa qs5 (Blk.made _ _ _) (Q1d.below M7.out (h4.trans EY)) (Q1d.below h1 EY) (Y6f T3.out) (Y6f h2) (by have:=cW.out; rw [jf.out]; omega))
       clear h1 h2 h3 h4 EY;unfold Q1o;go_wp2_with (go_at_call 199; refine Y0.out.mono ?_; rintro e w6 ⟨x6,rfl,h1,h4⟩; refine halted ?_);have bj:=hid (zb.out.trans h4);have zK:Hid (Q0v w6 (qa ++ qs5)):=hid (fun z hz=>by
        rcases List.mem_append.1 hz with hz | hz
        . exact T3.out.ext (vq.out.trans bj.out) z hz
        . exact WY.out.ext bj.out z hz)
       have Ly:=hid (Q9p w6 _ x6 (qa ++ qs5) h1 zK.out (by rw [List.length_append,jf.out]; have:=cW.out; omega))
       clear h1 h4;unfold Q1o;go_wp2_with (go_at_call 197; refine Ly.out.mono ?_; rintro e w7 ⟨x7,qs7,rfl,h1,h2,h3,h4⟩; refine halted ?_);have Ln:=hid h1;have Kn:=hid h2;have Jn:=hid h3;have mg:=hid h4;clear h1 h2 h3 h4;unfold Q1o;go_wp2;go_ret;have Zq:Ext w w6:=og.out.trans (vq.out.trans bj.out);exact ⟨_,qs7,rfl,Q1d.weaken Ln.out Zq.size,Kn.out,by rw [Jn.out,List.map_append,mf.out,Bb.out,O1.out],Zq.trans mg.out⟩
end Go.Proofs
namespace Go.Tw
open Go.RowKit Go.Flow
theorem J0l {s:Q0b} {l:List Runner} {j:Nat} {r:Runner} (h:l[j]?=some r):Y5z s (l.take (j + 1))=Y5z s (l.take j) + if r.dry then Q0n s.members r.member else 0:=by
 obtain ⟨hk,rfl⟩:=List.getElem?_eq_some_iff.1 h;unfold Y5z;rw [List.take_succ_eq_append_getElem hk,List.map_append,List.sum_append];simp
theorem Z3b {s:Q0b} (hV:Q0r s):∀ {l:List Runner},Known s l -> 0 <= Y5z s l /\ Y5z s l <= 1000 * l.length
 | [],_=>by simp [Y5z]
 | r :: l,h=>by
   have h1:=hV.weights r.member (h r List.mem_cons_self);have h2:=Z3b hV fun q hq=>h q (List.mem_cons_of_mem _ hq);have e:Y5z s (r :: l)=(if r.dry then Q0n s.members r.member else 0) + Y5z s l:=by unfold Y5z; rw [List.map_cons,List.sum_cons]
   rw [e,List.length_cons]
   split <;> omega
end Go.Tw
namespace Go.Proofs
open Go.RowKit Go.Tw Go.Flow
attribute [local go_sem] Oper.semAt_some
theorem Z3i {w:World} {g:Nat} {x:Int} (h:Blk w g 159 #[.int .i64 x,.int .i64 0,.int .i64 0,.slice none 0 0]) {B:Nat} (hB:B <= g):Q1d w B 159 4 Q3g (.slice (some ⟨g,0,none⟩) 1 1) [((⟨x,0,0,[]⟩:Plan),Value.slice none 0 0)] :=
 ⟨by simp [Q3g],.inr ⟨g,1,_,rfl,hB,h,Nat.le_refl _,by unfold maxLen; omega,by simp,by simp [Q3g]⟩⟩
theorem Y3z (w:World) (x:Int):Q0v w [((⟨x,0,0,[]⟩:Plan),Value.slice none 0 0)]:=fun q hq=>by
 obtain rfl:=List.mem_singleton.1 hq;exact Q0q.nil _ _ _ _
theorem Z5a (s:Q0b) (hV:Q0r s):Y7s s 0:=by
 intro w B u v l hu hv rj Kw nj hl;obtain ⟨aS,bS,rfl,h2⟩:=hu;obtain ⟨A,Tq,rfl,-,-,-⟩:=h2.ships.opened;obtain ⟨M,Vq,rfl,-,-,-⟩:=h2.members.opened;have h6:=hV.tides;have lQ:=hid h2;have kQ:=hid rj;have HV:=hid hV;have dz:Hid (Q2v s 0 l=[⟨Y5z s l,0,0,[]⟩]):=hid rfl;rw [dz.out];obtain ⟨Al,cl,EK,Gj⟩:=hv.reads Q8l;subst EK;rw [Nat.sub_zero];clear h2 hv rj Kw nj hV dz;go_enter Tryz.func157,Tryz.ntmps157;go_wp2_with fail;change Code.wp _ _ _ _ (w.alloc (.cells #[.int .i64 s.limit,.slice A s.ships.length Tq,.slice M s.members.length Vq] 34));obtain ⟨W,Mq,k0,Rq,eW⟩:=Q2q w 34 #[.int .i64 s.limit,.slice A s.ships.length Tq,.slice M s.members.length Vq];rw [Mq];clear Mq;have K0:=hid k0;obtain ⟨gs,Rj⟩:∃ z,w.heap.size=z:=⟨_,rfl⟩;have rx:=hid Rj;rw [Rj] at K0 eW ⊢;have c1:=K0.out.cell 1;simp only [Go.Tw.gA,Go.Tw.gB,Go.Tw.gC] at c1;clear k0 Rj;go_wp2;clear c1
 go_loopw [7,22] (fun o i wr=>∃ (j:Nat),j <= l.length /\ i=.int .i64 j /\ o=.int .i64 (Y5z s (l.take j)) /\ Ext W wr) (fun _ i _=>l.length - (intOf i).toNat)
 case atStart=>exact ⟨0,Nat.zero_le _,rfl,by simp [Y5z],Ext.refl _⟩
 case round =>
  obtain ⟨j,hj,rfl,rfl,hx⟩:=hrel;have HX:=hid hx
  by_cases Uq:j < l.length
  . obtain ⟨gl,rfl,Wq⟩:=Gj.out j Uq
    have Gx:=Rq.out.trans hx;have Yy:=hid Gx;have e0:=Gx.cell (Wq 0 (by omega))
    have e1:=Gx.cell (Wq 1 (by omega))
    have e2:=Gx.cell (Wq 2 (by omega))
    have Jw:=kQ.out _ (List.getElem_mem Uq);have hsm:=J0l (s:=s) (List.getElem?_eq_getElem Uq);obtain ⟨r,hr⟩:∃ z,l[j]=z:=⟨_,rfl⟩;rw [hr] at e0 e1 e2 Jw hsm;obtain ⟨i,Jv⟩:∃ z,r.member=z:=⟨_,rfl⟩;obtain ⟨r2,Ck⟩:∃ z,r.level=z:=⟨_,rfl⟩;obtain ⟨r3,s6⟩:∃ z,r.dry=z:=⟨_,rfl⟩;rw [Jv] at Jw hsm;rw [s6] at hsm;replace e0:wr.cell? ⟨gl,j * 3,none⟩=some (.int .i64 (i:Int)):=by rw [<- Jv]; exact e0
    replace e1:wr.cell? ⟨gl,j * 3 + 1,none⟩=some (.int .i64 r2):=by rw [<- Ck]; exact e1
    replace e2:wr.cell? ⟨gl,j * 3 + 2,none⟩=some (.bool r3):=by rw [<- s6]; exact e2
    obtain ⟨bm,off,Sq,Jq,Cq,X,Y,Z,hm⟩:=Q3e lQ.out.members Jw;obtain rfl:=hm.addr;have rq:=Gx.cell hm.e1;have AK:=HV.out.weights i Jw;have V0:(i:Int) < s.members.length:=by omega
    have M8:(j:Int) < l.length:=by omega
    have O5:=Z3b HV.out (l:=l.take j) (fun q hq=>kQ.out q (List.mem_of_mem_take hq));have jQ:(l.take j).length <= 8:=by rw [List.length_take]; omega
    obtain ⟨wt,lq⟩:∃ z,Q0n s.members i=z:=⟨_,rfl⟩;rw [lq] at rq AK hsm;obtain ⟨sm,V2⟩:∃ z,Y5z s (l.take j)=z:=⟨_,rfl⟩;rw [V2] at O5 hsm;have o8:IntKind.i64.wrap (sm + wt)=sm + wt:=Q2j _ (by omega) (by omega)
    have Xg:=hid hsm;have Bq:=Ext.box wr (.cells #[.int .i64 (i:Int),.int .i64 r2,.bool r3] 233);have K3:=Blk.made wr 233 #[.int .i64 (i:Int),.int .i64 r2,.bool r3];have d0:=(K3).cell 0;have d1:=(K3).cell 1;have d2:=(K3).cell 2;simp only [Go.Tw.gA,Go.Tw.gB,Go.Tw.gC] at d0 d1 d2;have c2:=(K0.out.ext hx).ext Bq |>.cell 2
    simp only [Go.Tw.gA,Go.Tw.gB,Go.Tw.gC] at c2;replace rq:=Bq.cell rq;have uj:=hid (hx.trans Bq);clear Wq hr Jv Ck s6 hm AK O5 jQ lq hsm Bq Gx hx Jw K3;rw [V2];clear V2
    go_light
    cases r3 with
    | true =>
      rw [if_pos rfl] at Xg;go_wp2;go_roundw
      case rel=>exact ⟨j + 1,by omega,by go_num,by rw [Xg.out],uj.out⟩
      case measure=>simp [intOf]; omega
    | false =>
      rw [if_neg (by simp)] at Xg
      go_wp2;go_roundw
      case rel=>exact ⟨j + 1,by omega,by go_num,by rw [Xg.out,Int.add_zero],uj.out⟩
      case measure=>simp [intOf]; omega
  . have U7:j=l.length:=by omega
    subst U7;rw [List.take_length];clear hx;go_wp2;go_ret;have hb:=Blk.made wr 159 #[.int .i64 (Y5z s l),.int .i64 0,.int .i64 0,.slice none 0 0];exact ⟨_,[((⟨Y5z s l,0,0,[]⟩:Plan),Value.slice none 0 0)],rfl,Z3i hb (Rq.out.trans HX.out).size,Y3z _ _,rfl,(Rq.out.trans HX.out).trans (Ext.box _ _)⟩
end Go.Proofs
namespace Go.Tw
open Go.RowKit Go.Flow
theorem J2h {s:Q0b} {t c:Nat} {l:List Runner} {j:Nat} {r:Runner} (h:l[j]?=some r):Q7y s t c (l.take (j + 1))=Q7y s t c (l.take j) ++ if ix (Q0c s.members r.member) t=(c:Int) then [r] else []:=by
 obtain ⟨hk,rfl⟩:=List.getElem?_eq_some_iff.1 h;unfold Q7y;rw [List.take_succ_eq_append_getElem hk,List.filter_append]
 congr 1
 by_cases he:ix (Q0c s.members l[j].member) t=(c:Int)
 . rw [if_pos he]; simp [he]
 . rw [if_neg he]; simp [he]
theorem Z0p {s:Q0b} {t c:Nat} {l:List Runner}:(Q7y s t c l).length <= l.length:=List.length_filter_le _ _
end Go.Tw
namespace Go.Proofs
open Go.RowKit Go.Tw Go.Flow
attribute [local go_sem] Oper.semAt_some
theorem Z6l (s:Q0b) (hV:Q0r s) (hF:s.hist.length <= 9) (k:Nat) (nz:k + 1 <= s.ships.length) (pg:Y7s s k):Y7s s (k + 1):=by
 intro w B u v l hu hv rj Kw nj hl;have Gn:=hid pg;obtain ⟨aS,bS,rfl,h2⟩:=hu;obtain ⟨A,Tq,rfl,-,-,-⟩:=h2.ships.opened;obtain ⟨M,Vq,rfl,-,-,-⟩:=h2.members.opened;have h6:=hV.tides;obtain ⟨i0,hi,dq,fq,Zj⟩:=info_parts Tryz.J1r;have lQ:=hid h2;have kQ:=hid rj;have HV:=hid hV;have Gr:=hid Kw;have Fn:=hid nj;have iw:=hid (Y4w hV nz (Q7p hV k (by omega)) rj nj)
 have SX:=hid (fun (c:Nat) (hn:Q7y s (s.ships.length - (k + 1)) c l ≠ [])=>Y1b hV nz (Q7p hV k (by omega)) (Q8d rj) hn (by
  have:=Q9s (c:=c) hV.toFine rj (by omega) nj
  have e1:s.ships.length - k=s.ships.length - (k + 1) + 1:=by omega
  rw [e1]; exact this))
 have t7:=hid (fun (W:World) (v:Value) (c:Nat) (B:Nat) (hW:Ext w W) (hv:Q1d W B 233 3 encR v (Q7y s (s.ships.length - (k + 1)) c l)) (hn:Q7y s (s.ships.length - (k + 1)) c l ≠ []) =>
  Z7f W B _ v s k _ pg ⟨_,_,rfl,h2.ext hW⟩ hv hV nz hF (Q8d rj) (fun r hr=>Kw r (List.mem_filter.1 hr).1) (by
   have:=Q9s (c:=c) hV.toFine rj (by omega) nj
   have e1:s.ships.length - k=s.ships.length - (k + 1) + 1:=by omega
   rw [e1]; exact this) hn (Nat.le_trans Z0p hl))
 have Ly:Hid (∀ c,X7d s (s.ships.length - (k + 1)) (X6l s (s.ships.length - (k + 1)) c l) + X7d s (s.ships.length - (k + 1)) (Q7y s (s.ships.length - (k + 1)) c l) <= 9):=hid (fun c=>by
  rw [<- Y9h];exact Nat.le_trans (X8z _ _) hF)
 have m8:Hid (∀ c,Q7y s (s.ships.length - (k + 1)) c l=[] -> Q2x s (s.ships.length - (k + 1)) (Q2v s k) l (c + 1)=Q2x s (s.ships.length - (k + 1)) (Q2v s k) l c):=hid (fun c h=>by rw [Q2x,if_pos h])
 have DY:Hid (∀ c,Q7y s (s.ships.length - (k + 1)) c l ≠ [] -> Q2x s (s.ships.length - (k + 1)) (Q2v s k) l (c + 1)=together (Q2x s (s.ships.length - (k + 1)) (Q2v s k) l c) (Q4r s (s.ships.length - (k + 1)) (Q2v s k) (Q7y s (s.ships.length - (k + 1)) c l))):=hid (fun c h=>by rw [Q2x,if_neg h])
 have dz:Hid (Q2v s (k + 1) l=Q2x s (s.ships.length - (k + 1)) (Q2v s k) l 10):=hid rfl;have bZ:Hid (Q2x s (s.ships.length - (k + 1)) (Q2v s k) l 0=[⟨0,0,0,[]⟩]):=hid rfl;have ff:Hid (∀ l',Known s l' -> l'.length <= 8 -> 0 <= Q6h s l' /\ Q6h s l' <= 8000):=hid (fun l' h h8=>by have:=Y5v hV h; omega)
 have l8:Hid (∀ c,Known s (X6l s (s.ships.length - (k + 1)) c l) /\ (X6l s (s.ships.length - (k + 1)) c l).length <= 8):=hid (fun c=>⟨Z8c rj,Nat.le_trans (List.length_filter_le _ _) hl⟩);have ub:Hid (∀ c,Known s (Q7y s (s.ships.length - (k + 1)) c l) /\ (Q7y s (s.ships.length - (k + 1)) c l).length <= 8):=hid (fun c=>⟨Q8d rj,Nat.le_trans Z0p hl⟩);rw [dz.out];obtain ⟨Al,cl,EK,Gj⟩:=hv.reads Q8l;subst EK;have rg:s.ships.length - (k + 1) < s.ships.length:=by omega
 have gQ:k + 1 <= 6:=by omega
 obtain ⟨t,ht⟩:∃ z,s.ships.length - (k + 1)=z:=⟨_,rfl⟩;rw [ht] at iw SX t7 Ly m8 DY bZ l8 ub rg ⊢;have sb:Hid (¬ (t:Int)=s.ships.length):=hid (by omega)
 obtain ⟨sub,yK⟩:∃ z,Q2v s k=z:=⟨_,rfl⟩;rw [yK] at iw SX t7 m8 DY bZ ⊢;clear h2 hv rj Kw nj hV dz pg hF yK ht;go_enter Tryz.func157,Tryz.ntmps157;go_wp2_with fail;change Code.wp _ _ _ _ ((w.alloc (.cells #[.int .i64 s.limit,.slice A s.ships.length Tq,.slice M s.members.length Vq] 34)).alloc (.cells #[.int .i64 0,.int .i64 0,.int .i64 0,.slice none 0 0] 159));obtain ⟨W,Mq,k0,k1,Rq,eW⟩:=Q4p w 34 #[.int .i64 s.limit,.slice A s.ships.length Tq,.slice M s.members.length Vq] 159 #[.int .i64 0,.int .i64 0,.int .i64 0,.slice none 0 0];rw [Mq];clear Mq;have K0:=hid k0;have rb:=hid (Z3i k1 (B:=w.heap.size) (by omega))
 obtain ⟨gs,Rj⟩:∃ z,w.heap.size=z:=⟨_,rfl⟩;have rx:=hid Rj;rw [Rj] at K0 rb eW ⊢;have ef:((t:Int) == (s.ships.length:Int))=false:=by simpa using sb.out
 rw [ef];clear k0 k1 Rj ef
 go_loopw [10,43] (fun o i wr=>∃ (c:Nat) (qs:List PV),c <= 10 /\ i=.int .i64 c /\ Q1d wr w.heap.size 159 4 Q3g o qs /\ Q0v wr qs /\ qs.map (·.1)=Q2x s t sub l c /\ Ext W wr) (fun _ i _=>10 - (intOf i).toNat)
 case atStart=>exact ⟨0,_,Nat.zero_le _,rfl,by rw [rx.out]; exact rb.out,Y3z _ _,by rw [bZ.out]; rfl,Ext.refl _⟩
 case round =>
  clear rb bZ;obtain ⟨c,qs,hc,rfl,Yq,dx,Ez,hx⟩:=hrel;have Ug:=hid Ez;have HX:=hid hx;have kq:=hid Yq;have bw:=hid dx
  by_cases Uq:c < 10
  . have Fr:(c:Int) < 10:=by omega
    obtain ⟨w0,rfl⟩:∃ X,X=wr:=⟨_,rfl⟩;clear Yq dx Ez hx
    go_light
    go_wp2
    go_loopw [12,48] (fun v j wq=>∃ (n:Nat),n <= l.length /\ j=.int .i64 n /\ Q1d wq w0.heap.size 233 3 encR v (Q7y s t c (l.take n)) /\ Ext w0 wq) (fun _ j _=>l.length - (intOf j).toNat)
    case atStart=>exact ⟨0,Nat.zero_le _,rfl,Q1d.nil _ _ _ _ _,Ext.refl _⟩
    case round =>
     obtain ⟨n,hn,rfl,Yq,hx⟩:=hrel;have K6:=hid Yq;have Wz:=hid hx
     by_cases S3:n < l.length
     . obtain ⟨gl,rfl,Wq⟩:=Gj.out n S3
       have Gx:=Rq.out.trans (HX.out.trans hx);have e0:=Gx.cell (Wq 0 (by omega))
       have e1:=Gx.cell (Wq 1 (by omega))
       have e2:=Gx.cell (Wq 2 (by omega))
       have Jw:=kQ.out _ (List.getElem_mem S3);have hsm:=J2h (s:=s) (t:=t) (c:=c) (List.getElem?_eq_getElem S3);obtain ⟨r,hr⟩:∃ z,l[n]=z:=⟨_,rfl⟩;rw [hr] at e0 e1 e2 Jw hsm;obtain ⟨i,Jv⟩:∃ z,r.member=z:=⟨_,rfl⟩;obtain ⟨r2,Ck⟩:∃ z,r.level=z:=⟨_,rfl⟩;obtain ⟨r3,s6⟩:∃ z,r.dry=z:=⟨_,rfl⟩;have xK:=hid (show r.member=i /\ r.level=r2 /\ r.dry=r3 from ⟨Jv,Ck,s6⟩)
       rw [Jv] at Jw hsm;replace e0:wr.cell? ⟨gl,n * 3,none⟩=some (.int .i64 (i:Int)):=by rw [<- Jv]; exact e0
       replace e1:wr.cell? ⟨gl,n * 3 + 1,none⟩=some (.int .i64 r2):=by rw [<- Ck]; exact e1
       replace e2:wr.cell? ⟨gl,n * 3 + 2,none⟩=some (.bool r3):=by rw [<- s6]; exact e2
       obtain ⟨bm,off,Sq,Jq,Cq,X,Y,Z,hm⟩:=Q3e lQ.out.members Jw;obtain rfl:=hm.addr;have hcl:=(HV.out.shaped i Jw).1;have N5:t < (Q0c s.members i).length:=by omega
       obtain ⟨X',capx',L1,-,-,L8⟩:=hm.x.opened;injection L1 with L1 Db iQ;subst L1;subst iQ;obtain ⟨bc,oc,L1,uK⟩:=L8 t N5;subst L1;have Bq:=Ext.box wr (.cells #[.int .i64 (i:Int),.int .i64 r2,.bool r3] 233);have K3:=Blk.made wr 233 #[.int .i64 (i:Int),.int .i64 r2,.bool r3];have d0:=(K3).cell 0;have d1:=(K3).cell 1;have d2:=(K3).cell 2;simp only [Go.Tw.gA,Go.Tw.gB,Go.Tw.gC] at d0 d1 d2;have rq:=Bq.cell (Gx.cell hm.e2);have bf:=Bq.cell (Gx.cell uK);have c2:=(K0.out.ext (HX.out.trans (hx.trans Bq))).cell 2;simp only [Go.Tw.gA,Go.Tw.gB,Go.Tw.gC] at c2;have V0:(i:Int) < s.members.length:=by omega
       have Fa:(n:Int) < l.length:=by omega
       have uj:=hid (hx.trans Bq);have My:=hid K3;have U3:=hid (Q1d.below Yq Bq);have Gg:Hid ((Q7y s t c (l.take n)).length + 1 <= 100000):=hid (by
        have h1:(Q7y s t c (l.take n)).length <= (l.take n).length:=Z0p;rw [List.length_take] at h1;omega)
       obtain ⟨lc,M5⟩:∃ x,(Q0c s.members i).length=x:=⟨_,rfl⟩;rw [M5] at rq N5;have CW:(t:Int) < lc:=by omega
       obtain ⟨cv,N1⟩:∃ x,ix (Q0c s.members i) t=x:=⟨_,rfl⟩;rw [N1] at bf hsm;obtain ⟨zs,Dw⟩:∃ x,Q7y s t c (l.take n)=x:=⟨_,rfl⟩;rw [Dw] at hsm U3 Gg;have Xg:=hid hsm;obtain ⟨Ao,co,ay,-⟩:=U3.out.shape;subst ay;clear Wq Gx Jw hsm hr Jv Ck s6 hm hcl L8 uK Bq K3 hx Yq M5 N1 Dw K6
       go_light
       by_cases he:cv=(c:Int)
       . rw [if_pos he] at Xg
         subst he;have Zy:Hid (∀ (W:World) gn,Blk W gn 233 #[.int .i64 (i:Int),.int .i64 r2,.bool r3] -> ∀ j u,(encR r)[j]?=some u -> W.cell? ((⟨gn,0,none⟩:Addr).add j)=some u):=hid (fun W gn hb=>by unfold encR; rw [xK.out.1,xK.out.2.1,xK.out.2.2]; exact Q6d hb)
         have Mv:=hid uj.out.size;obtain ⟨wd,yQ⟩:∃ X,wr.alloc (.cells #[.int .i64 (i:Int),.int .i64 r2,.bool r3] 233)=X:=⟨_,rfl⟩;rw [yQ] at uj U3 Mv My d0 d1 d2 rq bf c2;go_wp2_with (refine Q2i (o:=⟨some 67,_,_,_,_,_⟩) rfl ?_; (try rw [yQ]); refine Q2y (.tmp 64) (.tmp 66) 231 rfl w0.heap.size 233 i0 (.agg #[.int .i64 0,.int .i64 0,.bool false]) 3 24 Tryz.underlying231 hi dq fq Zj rfl (by decide) encR Q8l _ zs r rfl (U3.out.below (Ext.box _ _)) ⟨wd.heap.size,0,none⟩ 1 rfl (Zy.out _ _ (Blk.made _ _ _)) (Y5o r) Gg.out (by decide) (by have h1:=(Ext.box wd (.cells #[.int .i64 (i:Int),.int .i64 r2,.bool r3] 233)).size; have h2:=Mv.out; omega) ?_; intro v' w9 Oq Pq)
         have hg:(wd.alloc (.cells #[.int .i64 (i:Int),.int .i64 r2,.bool r3] 233)).grownBy w9 (Value.slice Ao zs.length co).ownBlock:=Pq;have Zq:=Ext.box wd (.cells #[.int .i64 (i:Int),.int .i64 r2,.bool r3] 233);have Jy:=U3.out.below Zq;have En:Ext w0 w9:=Below.grown (uj.out.trans Zq) hg (by have:=Zq.size; have:=Mv.out; omega) (fun b hb=>(Jy.Q9f b hb).1)
         go_roundw
         case rel=>exact ⟨n + 1,by omega,by go_num,by rw [Xg.out]; exact Oq,En⟩
         case measure=>simp [intOf]; omega
       . rw [if_neg he,List.append_nil] at Xg
         go_wp2;go_roundw
         case rel=>exact ⟨n + 1,by omega,by go_num,by rw [Xg.out]; exact U3.out,uj.out⟩
         case measure=>simp [intOf]; omega
     . have hne:n=l.length:=by omega
       subst hne;rw [List.take_length] at K6;clear Yq hx;obtain ⟨ow,how⟩:∃ z,Q7y s t c l=z:=⟨_,rfl⟩;obtain ⟨Ao,co,ay,-⟩:=K6.out.shape;subst ay;have Lg:=hid (HX.out.trans Wz.out)
       by_cases hE:ow=[]
       . have pj:Hid (Q2x s t sub l (c + 1)=Q2x s t sub l c):=hid (m8.out c (by rw [how]; exact hE))
         have h0:(Q7y s t c l).length=0:=by rw [how,hE]; rfl
         rw [h0];clear how hE;go_wp2;go_roundw
         case rel=>exact ⟨c + 1,qs,by omega,by go_num,kq.out.below Wz.out,bw.out.ext Wz.out,by rw [pj.out]; exact Ug.out,Lg.out⟩
         case measure=>simp [intOf]; omega
       . have hne:Q7y s t c l ≠ []:=by rw [how]; exact hE
         have pj:=hid (DY.out c hne);have HD:=hid (fun (W:World) (hW:Ext w W) hv=>t7.out W (.slice Ao (Q7y s t c l).length co) c w0.heap.size hW hv hne);have HB:=hid (SX.out c hne);have hpos:0 < (Q7y s t c l).length:=List.length_pos_iff.2 hne;have tK:(0:Int) < (Q7y s t c l).length:=by omega
         have Dn:Hid (∀ q ∈ qs,Z6r q.1):=hid (fun q hq=>by
          have hm:q.1 ∈ Q2x s t sub l c:=by rw [<- Ug.out]; exact List.mem_map_of_mem hq
          have hb:=Ly.out c;exact Y5n ((iw.out c).2 _ hm) gQ (ff.out _ (l8.out c).1 (l8.out c).2) (by omega))
         have JK:Hid (∀ x ∈ Q4r s t sub (Q7y s t c l),Z6r x):=hid (fun x hx=>by
          have hb:=Ly.out c;exact Y5n (HB.out.2.2 x hx) gQ (ff.out _ (ub.out c).1 (ub.out c).2) (by omega))
         have Zw:Hid (qs.length * (Q4r s t sub (Q7y s t c l)).length <= 512 /\ qs.length <= 512 /\ (Q4r s t sub (Q7y s t c l)).length <= 512):=hid (by
          have hb:=Ly.out c;have h1:=(iw.out c).1;rw [<- Ug.out,List.length_map] at h1;have h2:=HB.out.2.1;have h3:qs.length * (Q4r s t sub (Q7y s t c l)).length <= 2 ^ 9:=Nat.le_trans (Nat.mul_le_mul h1 h2) (by rw [<- Nat.pow_add]; exact Nat.pow_le_pow_right (by omega) hb)
          have h4:qs.length <= 2 ^ 9:=Nat.le_trans h1 (Nat.pow_le_pow_right (by omega) (by omega))
          have h5:(Q4r s t sub (Q7y s t c l)).length <= 2 ^ 9:=Nat.le_trans h2 (Nat.pow_le_pow_right (by omega) (by omega))
          omega)
         obtain ⟨dc,CY⟩:∃ z,Q4r s t sub (Q7y s t c l)=z:=⟨_,rfl⟩;rw [CY] at JK Zw pj HD;obtain ⟨ol,N2⟩:∃ z,(Q7y s t c l).length=z:=⟨_,rfl⟩;rw [N2] at K6 HD tK ⊢;have k0:=K0.out.ext Lg.out;have c0:=(k0).cell 0;have c1:=(k0).cell 1;have c2:=(k0).cell 2;simp only [Go.Tw.gA,Go.Tw.gB,Go.Tw.gC] at c0 c1 c2;have sK:=hid (Rq.out.trans Lg.out);have af:=K6.out;have PK:=hid (HD.out _ sK.out af);clear how hE hne hpos CY N2 k0 HB iw SX t7 Ly m8 DY af;go_wp2_with (go_at_call 185; refine PK.out.mono ?_; rintro e w5 ⟨x5,qs5,rfl,h1,h2,h3,h4⟩; refine halted ?_);have H4:=hid h4;have Cn:=hid (Y9n w5 w.heap.size _ _ x5 qs qs5 (kq.out.below (Wz.out.trans h4)) h1 (bw.out.ext (Wz.out.trans h4)) h2 Dn.out (fun q hq=>JK.out _ (by rw [<- h3]; exact List.mem_map_of_mem hq)) (by have:=Zw.out.1; rw [<- h3,List.length_map] at this; omega) (by have:=Zw.out.2.1; omega) (by have:=Zw.out.2.2; rw [<- h3,List.length_map] at this; omega))
         have Bb:=hid h3;clear h1 h2 h3 h4;unfold Q1o;go_wp2_with (go_at_call 184; refine Cn.out.mono ?_; rintro e w6 ⟨x6,qs6,rfl,h1,h2,h3,h4⟩; refine halted ?_);have bj:Hid (Ext wr w6):=hid (H4.out.trans h4);have N3:=hid h1;have zK:=hid h2;have j8:=hid h3;clear h1 h2 h3 h4;unfold Q1o;go_wp2;go_roundw
         case rel=>exact ⟨c + 1,qs6,by omega,by go_num,Q1d.weaken N3.out (sK.out.trans H4.out).size,zK.out,by rw [j8.out,pj.out,Ug.out,Bb.out],Lg.out.trans bj.out⟩
         case measure=>simp [intOf]; omega
  . have Db:c=10:=by omega
    subst Db;clear Yq dx Ez hx;go_wp2;go_ret;exact ⟨_,qs,rfl,kq.out,bw.out,Ug.out,Rq.out.trans HX.out⟩
end Go.Proofs
namespace Go.Tw
open Go.RowKit Go.Flow
def X7p (n:Nat):List Runner:=(List.range n).map fun i=>⟨i,0,true⟩
theorem Z5v (n:Nat):X7p (n + 1)=X7p n ++ [⟨n,0,true⟩]:=by unfold X7p; rw [List.range_succ,List.map_append]; rfl
theorem Y7x (n:Nat):(X7p n).length=n:=by simp [X7p]
end Go.Tw
namespace Go.Proofs
open Go.RowKit Go.Tw Go.Flow
attribute [local go_sem] Oper.semAt_some
theorem Y9y (s:Q0b) (hV:Q0r s) (hF:s.hist.length <= 9):∀ k,k <= s.ships.length -> Y7s s k
 | 0,_=>Z5a s hV
 | k + 1,h=>Z6l s hV hF k h (Y9y s hV hF k (by omega))
theorem Y8f (w:World) (v:Value) (s:Q0b) (hv:Q0i w v s) (hV:Q0r s) (hF:s.hist.length <= 9) :
    Calls Tryz.prog 94 #[v] w fun e w'=>∃ x qs,e=.returned x /\ Q1d w' w.heap.size 159 4 Q3g x qs /\ Q0v w' qs /\ qs.map (·.1)=Q3m s /\ Ext w w':=by
 obtain ⟨aS,bS,rfl,h2⟩:=hv;obtain ⟨A,Tq,rfl,-,-,-⟩:=h2.ships.opened;obtain ⟨M,Vq,rfl,-,-,-⟩:=h2.members.opened;obtain ⟨i0,hi,dq,fq,Zj⟩:=info_parts Tryz.J1r;have h8:=hV.some;have O3:=hid (fun (W:World) (u:Value) (B:Nat) (hW:Ext w W) (hu:Q1d W B 233 3 encR u (X7p s.members.length))=>by
  have h:=Y9y s hV hF s.ships.length (Nat.le_refl _) W B _ u (X7p s.members.length) ⟨_,_,rfl,h2.ext hW⟩ hu Q8b (fun r hr=>by
   obtain ⟨i,_,rfl⟩:=List.mem_map.1 hr;show (0:Int) <= 0 /\ (0:Int) <= _;omega) Q9l (by rw [Y7x]; omega)
  rw [Nat.sub_self] at h;exact h)
 have dz:Hid (Q3m s=Q2v s s.ships.length (X7p s.members.length)):=hid rfl;rw [dz.out];obtain ⟨L,hL⟩:∃ z,s.members.length=z:=⟨_,rfl⟩;rw [hL] at O3 h8 ⊢;obtain ⟨P,hP⟩:∃ z,Q2v s s.ships.length (X7p L)=z:=⟨_,rfl⟩;rw [hP] at O3 ⊢;clear h2 hV hF dz hL hP;go_enter Tryz.func94,Tryz.ntmps94;go_wp2_with fail;change Code.wp _ _ _ _ (w.alloc (.cells #[.int .i64 s.limit,.slice A s.ships.length Tq,.slice M L Vq] 34));obtain ⟨W,Mq,k0,Rq,eW⟩:=Q2q w 34 #[.int .i64 s.limit,.slice A s.ships.length Tq,.slice M L Vq];rw [Mq];clear Mq;have K0:=hid k0;clear k0
 go_loopw [3,8] (fun o i wr=>∃ (k:Nat),k <= L /\ i=.int .i64 k /\ Q1d wr W.heap.size 233 3 encR o (X7p k) /\ Ext W wr) (fun _ i _=>L - (intOf i).toNat)
 case atStart=>exact ⟨0,Nat.zero_le _,rfl,Q1d.nil _ _ _ _ _,Ext.refl _⟩
 case round =>
  obtain ⟨k,hk,rfl,Yq,hx⟩:=hrel;have HX:=hid hx;have kq:=hid Yq
  by_cases Uq:k < L
  . have zj:(k:Int) < L:=by omega
    have Gg:Hid ((X7p k).length + 1 <= 100000):=hid (by rw [Y7x]; omega)
    have Sj:=hid (Z5v k);obtain ⟨zs,Dw⟩:∃ z,X7p k=z:=⟨_,rfl⟩;rw [Dw] at kq Gg Sj;obtain ⟨Ao,co,ay,-⟩:=kq.out.shape;subst ay;have Mv:=hid HX.out.size;clear Yq hx Dw
    go_light
    go_wp2_with (refine Q2i (o:=⟨some 15,_,_,_,_,_⟩) rfl ?_; refine Q2y (.tmp 11) (.tmp 14) 231 rfl W.heap.size 233 i0 (.agg #[.int .i64 0,.int .i64 0,.bool false]) 3 24 Tryz.underlying231 hi dq fq Zj rfl (by decide) encR Q8l _ zs (⟨k,0,true⟩:Runner) rfl (kq.out.below (Ext.box _ _)) ⟨wr.heap.size,0,none⟩ 1 rfl (Q6d (xs:=encR ⟨k,0,true⟩) (Blk.made _ _ _)) (Y5o _) Gg.out (by decide) (by have h1:=(Ext.box wr (.cells #[.int .i64 (k:Int),.int .i64 0,.bool true] 233)).size; have h2:=Mv.out; omega) ?_; intro v' w9 Oq Pq)
    have Zq:=Ext.box wr (.cells #[.int .i64 (k:Int),.int .i64 0,.bool true] 233);have Jy:=kq.out.below Zq;have T4:=hid Oq;have uj:Hid (Ext W w9):=hid (Below.grown (HX.out.trans Zq) Pq (by have:=Zq.size; have:=Mv.out; omega) (fun b hb=>(Jy.Q9f b hb).1))
    clear Zq Jy Oq Pq;go_wp2;go_roundw
    case rel=>exact ⟨k + 1,by omega,by go_num,by rw [Sj.out]; exact T4.out,uj.out⟩
    case measure=>simp [intOf]; omega
  . have lj:k=L:=by omega
    subst lj;have k0:=K0.out.ext hx;have c0:=(k0).cell 0;have c1:=(k0).cell 1;have c2:=(k0).cell 2;simp only [Go.Tw.gA,Go.Tw.gB,Go.Tw.gC] at c0 c1 c2;have HC:=hid (O3.out wr _ W.heap.size (Rq.out.trans hx) Yq);have kx:=hid (Rq.out.trans hx);clear Yq hx k0;go_wp2_with (go_at_call 157; refine HC.out.mono ?_; rintro e w5 ⟨x5,qs5,rfl,h1,h2,h3,h4⟩; refine halted ?_);have H1:=hid h1;have H2:=hid h2;have H3:=hid h3;have H4:=hid h4;clear h1 h2 h3 h4;unfold Q1o;go_wp2;go_ret;exact ⟨_,qs5,rfl,Q1d.weaken H1.out kx.out.size,H2.out,H3.out,kx.out.trans H4.out⟩
end Go.Proofs
namespace Go.Tw
open Go.RowKit Go.Flow
def maxL (l:List Int):Int:=l.tail.foldl max (l.headD 0)
def Y6b (l:List Int) (k:Nat):Int:=((l.take k).tail).foldl max (l.headD 0)
theorem J0p (l:List Int) (h:0 < l.length):Y6b l 1=ix l 0:=by
 cases l with
 | nil=>simp at h
 | cons x l=>simp [Y6b,ix]
theorem Z4y (l:List Int) (k:Nat) (h0:0 < k) (hk:k < l.length):Y6b l (k + 1)=max (Y6b l k) (ix l k):=by
 unfold Y6b;rw [List.take_succ_eq_append_getElem hk,Q5g hk];have h1:(l.take k) ≠ []:=by intro h; have:=congrArg List.length h; rw [List.length_take,List.length_nil] at this; omega
 rw [List.tail_append_of_ne_nil h1,List.foldl_append]; rfl
theorem J1f (l:List Int):Y6b l l.length=maxL l:=by unfold Y6b maxL; rw [List.take_length]
theorem X3f {α:Type} (f:α -> Int):∀ (l:List α) (m:Int),l.foldl (fun m x=>max m (f x)) m=(l.map f).foldl max m
 | [],_=>rfl
 | x :: l,m=>by simp only [List.foldl_cons,List.map_cons]; exact X3f f l _
theorem J2d {s:Q0b} (hn:Q3m s ≠ []) (h0:∀ x ∈ Q3m s,0 <= x.weight):maxL ((Q3m s).map Plan.weight)=J1w s:=by
 unfold J1w maxL;rw [X3f Plan.weight];cases hp:Q3m s with
 | nil=>exact absurd hp hn
 | cons x l =>
   simp only [List.map_cons,List.tail_cons,List.headD_cons,List.foldl_cons];have hx:=h0 x (by rw [hp]; exact List.mem_cons_self)
   rw [show max (0:Int) x.weight=x.weight by omega]
def J2n (s:Q0b):Int:=if s.err=0 then J1w s else 0
end Go.Tw
namespace Go.Proofs
open Go.RowKit Go.Tw Go.Flow Tryz
attribute [local go_sem] Oper.semAt_some
theorem J2i (w:World) (v:Value) (l:List Int) (hv:Q0g w v l) (h0:0 < l.length) (Wj:l.length <= 100000) :
    Calls prog 92 #[v] w fun e w'=>e=.returned (.int .i64 (maxL l)) /\ w'=w:=by
 obtain ⟨A,Qq,rfl,hl,Kq,hc⟩:=hv.opened;have HC:=hid hc;obtain ⟨b,off,rfl,Zh⟩:=hc 0 h0;rw [Nat.add_zero] at Zh;have Er:(0:Int) < l.length:=by omega
 have Dr:¬ (l.length:Int) < 1:=by omega
 have MK:=hid (J0p l h0);have Bn:=hid (J1f l);clear hv hc;obtain ⟨y,hy⟩:∃ z,ix l 0=z:=⟨_,rfl⟩;rw [hy] at Zh MK;clear hy;go_enter func92,ntmps92;go_wp2
 go_loopw [3,4] (fun m i wr=>∃ (k:Nat),0 < k /\ k <= l.length /\ i=.int .i64 k /\ m=.int .i64 (Y6b l k) /\ wr=w) (fun _ i _=>l.length - (intOf i).toNat)
 case atStart=>exact ⟨1,by omega,h0,rfl,by rw [MK.out],rfl⟩
 case round =>
  obtain ⟨k,Ak,hk,rfl,rfl,rfl⟩:=hrel
  by_cases Uq:k < l.length
  . obtain ⟨_,_,he,Wq⟩:=HC.out k Uq
    cases he;have zj:(k:Int) < l.length:=by omega
    have mW:IntKind.i64.wrap ((k:Int) + 1)=(k:Int) + 1:=Q2j _ (by omega) (by omega)
    have HS:=hid (Z4y l k Ak Uq);obtain ⟨z,hz⟩:∃ z,ix l k=z:=⟨_,rfl⟩;rw [hz] at Wq HS;obtain ⟨m,hm⟩:∃ m,Y6b l k=m:=⟨_,rfl⟩;rw [hm] at HS ⊢;clear hz hm;go_wp2;go_roundw
    case rel=>exact ⟨k + 1,by omega,by omega,by go_num,by rw [HS.out],trivial⟩
    case measure=>simp [intOf]; omega
  . have lj:k=l.length:=by omega
    subst lj;go_wp2;go_ret;exact ⟨by rw [Bn.out]; rfl,rfl⟩
theorem Z8v (w:World) (a b c:Int) (v:Value) (A:Option Addr) (n cp:Nat) (hv:v=.slice A n cp) :
    Calls prog 95 #[.agg #[.int .i64 a,.int .i64 b,.int .i64 c,v]] w fun e w'=>e=.returned (.int .i64 a) /\ Ext w w':=by
 subst hv;have Bq:=Ext.box w (.cells #[.int .i64 a,.int .i64 b,.int .i64 c,.slice A n cp] 159);have K3:=Blk.made w 159 #[.int .i64 a,.int .i64 b,.int .i64 c,.slice A n cp];have d0:=(K3).cell 0;have d1:=(K3).cell 1;have d2:=(K3).cell 2;have d3:=(K3).cell 3;simp only [Go.Tw.gA,Go.Tw.gB,Go.Tw.gC] at d0 d1 d2 d3;clear K3;go_enter func95,ntmps95;go_wp2;go_ret;exact ⟨rfl,Bq⟩
theorem Y1n (w:World) (B:Nat) (v:Value) (ps:List PV) (hv:Q1d w B 159 4 Q3g v ps) (dx:Q0v w ps) (hl:ps.length <= 80000) :
    Calls prog 93 #[v,.func (.func 95) #[] #[]] w fun e w'=>∃ x,e=.returned x /\ Q0q w' w.heap.size 3 (.int .i64) x ((ps.map (·.1)).map Plan.weight) /\ Ext w w':=by
 obtain ⟨i0,hi,dq,fq,Zj⟩:=info_parts info3;have T3:=hid dx;obtain ⟨A,cv,nj,Gj⟩:=Q8c hv;subst nj;obtain ⟨L,hL⟩:∃ L,ps.length=L:=⟨_,rfl⟩;have HL:=hid hL;rw [hL] at hl ⊢;obtain ⟨ws,o8⟩:∃ z,(ps.map (·.1)).map Plan.weight=z:=⟨_,rfl⟩;have uQ:=hid o8;have Yh:Hid (ws.length=L):=hid (by rw [<- o8,List.length_map,List.length_map]; exact hL)
 rw [o8];clear hv dx hL o8;go_enter func93,ntmps93;go_wp2
 go_loopw [5,10] (fun o i wr=>∃ (k:Nat),k <= L /\ i=.int .i64 k /\ Q0q wr w.heap.size 3 (.int .i64) o (ws.take k) /\ Ext w wr) (fun _ i _=>L - (intOf i).toNat)
 case atStart=>exact ⟨0,Nat.zero_le _,rfl,Q0q.nil _ _ _ _,Ext.refl _⟩
 case round =>
  obtain ⟨k,hk,rfl,Yq,hx⟩:=hrel;have HX:=hid hx;have kq:=hid Yq
  by_cases Uq:k < L
  . have Oj:k < ps.length:=by rw [HL.out]; exact Uq
    have zj:(k:Int) < L:=by omega
    obtain ⟨gb,rfl,Wq⟩:=Gj.out k Oj;have e0:=hx.cell (Wq 0 (by omega))
    have e1:=hx.cell (Wq 1 (by omega))
    have e2:=hx.cell (Wq 2 (by omega))
    have e3:=hx.cell (Wq 3 (by omega))
    obtain ⟨A4,n4,c4,ox⟩:=T3.out.shape (List.getElem_mem Oj);have Sj:Hid (ws.take (k + 1)=ws.take k ++ [ps[k].1.weight]):=hid (by
     rw [List.take_succ_eq_append_getElem (by rw [Yh.out]; exact Uq)]
     congr 2
     simp only [<- uQ.out,List.getElem_map])
    obtain ⟨qk,Jx⟩:∃ z,ps[k]=z:=⟨_,rfl⟩;rw [Jx] at e0 e1 e2 e3 ox Sj;obtain ⟨x,xv⟩:=qk;replace ox:xv=.slice A4 n4 c4:=ox;subst ox;rw [Nat.add_zero] at e0;obtain ⟨x1,aq⟩:∃ z,x.weight=z:=⟨_,rfl⟩;obtain ⟨x2,Nq⟩:∃ z,x.closings=z:=⟨_,rfl⟩;obtain ⟨x3,yj⟩:∃ z,x.delay=z:=⟨_,rfl⟩;replace Sj:Hid (ws.take (k + 1)=ws.take k ++ [x1]):=hid (by rw [Sj.out,<- aq])
    replace e0:wr.cell? ⟨gb,k * 4,none⟩=some (.int .i64 x1):=by rw [<- aq]; exact e0
    replace e1:wr.cell? ⟨gb,k * 4 + 1,none⟩=some (.int .i64 x2):=by rw [<- Nq]; exact e1
    replace e2:wr.cell? ⟨gb,k * 4 + 2,none⟩=some (.int .i64 x3):=by rw [<- yj]; exact e2
    replace e3:wr.cell? ⟨gb,k * 4 + 3,none⟩=some (.slice A4 n4 c4):=e3;have Bq:=Ext.box wr (.cells #[.int .i64 x1,.int .i64 x2,.int .i64 x3,.slice A4 n4 c4] 159);have K3:=Blk.made wr 159 #[.int .i64 x1,.int .i64 x2,.int .i64 x3,.slice A4 n4 c4];have d0:=(K3).cell 0;have d1:=(K3).cell 1;have d2:=(K3).cell 2;have d3:=(K3).cell 3;simp only [Go.Tw.gA,Go.Tw.gB,Go.Tw.gC] at d0 d1 d2 d3;have jq:=hid Bq;have Bw:(ws.take k).length <= 80000:=by rw [List.length_take]; omega
    clear Wq Jx aq Nq yj Bq K3 Yq hx Oj
    go_light
    go_wp2_with (first | (refine (Z8v _ _ _ _ _ A4 n4 c4 rfl).mono ?_; rintro e w5 ⟨rfl,yq⟩; have Yq:=kq.out.below (jq.out.trans yq); have Mj:=HX.out.trans (jq.out.trans yq)) | (at_builtin; refine wpList_append_own _ rfl _ _ 22 rfl (w.heap.size) 3 i0 (.int .i64 0) 1 8 underlying22 hi dq fq Zj rfl (by decide) _ _ _ rfl (World.ownsRow.alloc Yq _) ⟨w5.heap.size,0,none⟩ 1 1 [.int .i64 x1] rfl rfl ?_ ?_ ?_ ?_ ?_ ?_; exact Q5y _ _ _; (focus (simp [Value.oneCell'])); (focus (unfold maxLen; omega)); (focus omega); (focus (have:=Mj.size; simp at this ⊢; omega)); intro v' w1 Oq Pq _))
    have hx':=Q3r Mj Yq (Nat.le_refl _) Pq;go_wp2;go_roundw
    case rel=>exact ⟨k + 1,by omega,by go_num,by rw [Sj.out]; exact Q0q.snoc Oq,hx'⟩
    case measure=>simp [intOf]; omega
  . have lj:k=L:=by omega
    subst lj;have HE:Hid (ws.take k=ws):=hid (List.take_of_length_le (by rw [Yh.out]; omega))
    rw [HE.out] at kq;clear Yq hx;go_wp2;go_ret;exact ⟨_,rfl,kq.out,HX.out⟩
theorem J1k (w:World) (v:Value) (s:Q0b) (hv:Q0i w v s) (hs:Q2r s) (hF:s.hist.length <= 9) :
    Calls prog 19 #[v] w fun e w'=>e=.returned (.tuple #[.int .i64 (J2n s),.int .i64 s.err]) /\ Ext w w':=by
 obtain ⟨a,b,rfl,h2⟩:=hv;obtain ⟨A,Tq,rfl,-,-,-⟩:=h2.ships.opened;obtain ⟨B,Vq,rfl,-,-,-⟩:=h2.members.opened;have H2:=hid h2;have HS:=hid hs;have Lv:=hid hF;clear h2 hs hF;go_enter func19,ntmps19;go_wp2_with fail;change Calls _ _ _ (w.alloc (.cells #[.int .i64 s.limit,.slice A s.ships.length Tq,.slice B s.members.length Vq] 34)) _;obtain ⟨W,Mq,k0,Rq,eW⟩:=Q2q w 34 #[.int .i64 s.limit,.slice A s.ships.length Tq,.slice B s.members.length Vq];rw [Mq];clear Mq;have K0:=hid k0;clear k0;refine (Q2k _ _ s ⟨_,_,rfl,H2.out.ext Rq.out⟩ HS.out).mono ?_;rintro e w5 ⟨rfl,yq⟩;have vq:=hid (Rq.out.trans yq);have Fx:=hid (K0.out.ext yq)
 by_cases he:s.err=0
 . have hV:=Q0r.of he
   have Rk:=hid (Y8f w5 _ s ⟨_,_,rfl,H2.out.ext vq.out⟩ hV Lv.out);have Sk:=Q7p hV s.ships.length (Nat.le_refl _) (Y4o s) Q8b Q9l;have rK:Q2v s s.ships.length (Y4o s)=Q3m s:=rfl;rw [rK] at Sk;have K5:(Q3m s).length <= 512:=by
    have h1:2 ^ X7d s (s.ships.length - s.ships.length) (Y4o s) <= 2 ^ 9:=Nat.pow_le_pow_right (by omega) (Nat.le_trans (X8z _ _) Lv.out)
    omega
   have pb:Q3m s ≠ []:=fun hp=>by
    obtain ⟨o,ho,_⟩:=Z0j hV.toFine (fun _=>false)
    rw [hp] at ho; simp at ho
   have GQ:=hid (J2d pb fun x hx=>(Sk.2 x hx).w.1);have Vx:=hid K5;have zn:Hid (0 < (Q3m s).length):=hid (List.length_pos_iff.2 pb);have HF:Hid (J2n s=J1w s):=hid (if_pos he);have hne:(s.err != 0)=false:=by simp [he]
   obtain ⟨E,hE⟩:∃ E,s.err=E:=⟨_,rfl⟩;have Nz:=hid (hE.symm.trans he);have c0:=(Fx.out).cell 0;have c1:=(Fx.out).cell 1;have c2:=(Fx.out).cell 2;simp only [Go.Tw.gA,Go.Tw.gB,Go.Tw.gC] at c0 c1 c2;rw [hE] at hne ⊢;rw [Nz.out];have Yw:=hid he;clear he hE yq hV Sk rK K5 pb;go_wp2_with (go_at_call 94; refine Rk.out.mono ?_; rintro e w6 ⟨x6,qs6,rfl,h1,h2,h3,h4⟩; refine halted ?_);have bj:=hid h4;have j8:=hid h3;have fQ:Hid (qs6.length=(Q3m s).length):=hid (by rw [<- h3,List.length_map])
   have N6:=hid (Y1n w6 _ x6 qs6 h1 h2 (by rw [fQ.out]; have:=Vx.out; omega))
   clear h1 h2 h3 h4;unfold Q1o;go_wp2_with (go_at_call 93; refine N6.out.mono ?_; rintro e w7 ⟨x7,rfl,h1,h2⟩; refine halted ?_);have mg:=hid h2;have HI:=hid (J2i w7 x7 _ (h1.ints (by rw [List.length_map,List.length_map,fQ.out]; have:=Vx.out; omega)) (by rw [List.length_map,List.length_map,fQ.out]; exact zn.out) (by rw [List.length_map,List.length_map,fQ.out]; have:=Vx.out; omega))
   rw [j8.out,GQ.out] at HI;clear h1 h2;unfold Q1o;go_wp2_with (go_at_call 92; refine HI.out.mono ?_; rintro e w8 ⟨rfl,rfl⟩; refine halted ?_);unfold Q1o;go_wp2;go_ret2;exact ⟨by rw [HF.out,Yw.out]; rfl,vq.out.trans (bj.out.trans mg.out)⟩
 . have HF:Hid (J2n s=0):=hid (if_neg he)
   have hne:(s.err != 0)=true:=by simp [he]
   obtain ⟨E,hE⟩:∃ E,s.err=E:=⟨_,rfl⟩;have Vx:=hid hE;rw [hE] at hne ⊢;clear he hE yq;go_wp2;go_ret2;exact ⟨by rw [HF.out,Vx.out]; rfl,vq.out⟩
end Go.Proofs
namespace Go.Tw
open Go.RowKit Go.Flow
def anyS (l:List ByteArray) (s:ByteArray):Bool:=l.any fun x=>s == x
theorem Y4t (l:List ByteArray) (s:ByteArray):l.contains s=anyS l s:=List.contains_eq_any_beq
theorem Z9z {l:List ByteArray} {k:Nat} (h:k < l.length) (s:ByteArray):anyS (l.drop k) s=(s == l[k] || anyS (l.drop (k + 1)) s):=by
 rw [List.drop_eq_getElem_cons h]; rfl
def Z2h (q:Value × Bool):List Value:=[q.1,.bool q.2]
theorem Y6l (q:Value × Bool):(Z2h q).length=2:=rfl
end Go.Tw
namespace Go.Proofs
open Go.RowKit Go.Tw Go.Flow Tryz
attribute [local go_sem] Oper.semAt_some
theorem Y8h (w:World) (B:Nat) (v:Value) (l:List ByteArray) (s:ByteArray) (hv:Q0q w B 9 .string v l) (Wj:l.length <= 100000) :
    Calls prog 163 #[v,.string s] w fun e w'=>∃ r:Int,e=.returned (.int .i64 r) /\ decide (0 <= r)=anyS l s /\ w=w':=by
 obtain ⟨A,Qq,rfl,Kq,hc⟩:=hv.cells;clear hv;go_enter func163,ntmps163;go_wp2
 go_loop [8] (fun i=>∃ k:Nat,k <= l.length /\ i=.int .i64 k /\ anyS (l.drop k) s=anyS l s) (fun i=>l.length - (intOf i).toNat)
 case atStart=>exact ⟨0,Nat.zero_le _,rfl,rfl⟩
 case round =>
  obtain ⟨k,hk,rfl,hr⟩:=hrel;have HR:=hid hr; clear hr
  by_cases Uq:k < l.length
  . obtain ⟨b,rfl,-,-,Wq⟩:=hc k Uq
    rw [Nat.zero_add] at Wq;have HD:=hid (Z9z Uq s);have zj:(k:Int) < l.length:=by omega
    obtain ⟨y,hy⟩:∃ y,l[k]=y:=⟨_,rfl⟩;rw [hy] at Wq HD;clear hc hy
    by_cases hx:s=y
    . have HX:=hid (str_eq hx)
      have aq:=toList_eq rfl hx;clear hx;go_wp2;go_ret;exact ⟨k,rfl,by rw [<- HR.out,HD.out,HX.out,Bool.true_or]; simp,rfl⟩
    . have HX:=hid (X3c hx)
      have aq:=Z8d rfl hx;clear hx;go_wp2;go_round
      case rel=>exact ⟨k + 1,by omega,by go_num,by rw [<- HR.out,HD.out,HX.out,Bool.false_or]⟩
      case measure=>simp [intOf]; omega
  . clear hc
    go_wp2;go_ret;exact ⟨-1,rfl,by rw [<- HR.out,List.drop_eq_nil_of_le (by omega)]; rfl,rfl⟩
theorem X9t (w:World) (B:Nat) (v:Value) (l:List ByteArray) (s:ByteArray) (hv:Q0q w B 9 .string v l) (Wj:l.length <= 100000) :
    Calls prog 101 #[v,.string s] w fun e w'=>e=.returned (.bool (l.contains s)) /\ w=w':=by
 rw [Y4t];have HI:=hid (Y8h w B v l s hv Wj);obtain ⟨A,Qq,rfl,Kq,hc⟩:=hv.cells;clear hv hc;go_enter func101,ntmps101;go_wp2_with (go_at_call 163; refine HI.out.mono ?_; rintro e w' ⟨r,rfl,hr,rfl⟩; have HR:=hid hr; clear hr);go_ret;exact ⟨by rw [<- HR.out]; rfl,rfl⟩
theorem Tryz.K0b (w:World):(isAgg 167).run prog w=.ok true w:=by kernel_rfl
theorem Tryz.J4h (w:World):(sizeOf 167).run prog w=.ok 2 w:=by kernel_rfl
theorem Tryz.J9j:(prog.info? 167).map (fun i=>(i.zero,i.size,i.bytes))=some (some (.agg #[.slice none 0 0,.bool false]),2,32):=by kernel_rfl
theorem Z7x {A:Option Addr} {n c:Nat} {b:Bool}:∀ u ∈ (#[Value.slice A n c,.bool b]:Array Value).toList,u.oneCell'=true:=by
 intro u hu;simp only [List.mem_cons,List.not_mem_nil,or_false] at hu
 rcases hu with rfl | rfl <;> rfl
theorem Z7n (w:World) (h:List Int) (X:Option Addr) (n c g:Nat) (v:Value) (cl:List ByteArray) (hv:Q0g w (.slice X n c) h) (hd:Digits h) (hl:h.length <= 4096) (hg:w.cell? ⟨g,3,none⟩=some v) (ho:Q0q w 0 9 .string v cl) (hcl:cl.length <= 100000) :
    Calls prog 100 #[.slice X n c,.pointer (some ⟨g,0,none⟩)] w fun e w'=>e=.returned (.agg #[.slice X n c,.bool (cl.contains (Q6j h))]) /\ Ext w w':=by
 have HK:=hid (fun (W:World) (hW:Ext w W)=>X9b W _ h (hv.ext hW) hl hd);have HC:=hid (fun (W:World) (hW:Ext w W)=>X9t W 0 v cl (Q6j h) (ho.below hW) hcl);have HG:=hid hg;obtain ⟨Av,cv,yn,-⟩:=ho.shape;subst yn;obtain ⟨q,hq⟩:∃ q,cl.contains (Q6j h)=q:=⟨_,rfl⟩;rw [hq] at HC ⊢;obtain ⟨kh,Wh⟩:∃ k,Q6j h=k:=⟨_,rfl⟩;rw [Wh] at HK HC;clear hv hd hg ho hq Wh;go_enter func100,ntmps100;go_wp2_with fail;change Code.wp _ _ _ _ (w.alloc (.cells #[.slice none 0 0,.bool false] 167));obtain ⟨W,Mq,k0,Rq,eW⟩:=Q2q w 167 #[.slice none 0 0,.bool false];rw [Mq];clear Mq;have K0:=hid k0;obtain ⟨gp,lz⟩:∃ z,w.heap.size=z:=⟨_,rfl⟩;have Gy:=hid lz;rw [lz] at K0 eW ⊢;clear k0 lz;have Xq:=(Ext.refl W).drew;refine Flow.Q3q [.p,.p,.w,.p,.w,.w,.p,.last] [0,1,2,3,4,5,6,7] [[],[],[1],[],[3],[1,2,3,4],[0,1,2,3,4,5],[0,1,2,3,4,5,6]] [7]
  [.c 0 (.slice X n c),.c 1 (.pointer (some ⟨g,3,none⟩)),.c 2 (.slice Av cl.length cv),.c 3 (.slice X n c),.c 4 (.string kh),.c 5 (.bool q),.c 6 (.agg #[.slice X n c,.bool q]),.none]
  [fun v w1 w'=>Blk w' gp 167 #[.slice X n c,.bool q] /\ (∀ n,n <= gp -> Below n w1 w')] (by kernel_rfl) rfl (by kernel_rfl) ⟨?g0,?g1,?g2,?g3,?g4,?g5,?g6,?g7,trivial⟩ ?post
 case g0 | g1 | g3=>
  intro v w1 hx;intro bb hbb;subst hbb;refine ⟨_,fun w=>?_,rfl⟩;go_simp
 case g2=>
  intro v w1 hx;(repeat intro (zq:v _=_));intro bb hbb;subst hbb;have n0:w1.cell? ⟨g,3,none⟩=some (.slice Av cl.length cv):=(Rq.out.trans (Xq.trans hx)).cell HG.out;intro K hK;go_simp;exact hK _ _ (Ext.refl _) rfl
 case g4=>
  intro v w1 hx;(repeat intro (zq:v _=_));intro bb hbb;subst hbb;intro K hK;go_simp;refine Q0e (HK.out w1 (Rq.out.trans (Xq.trans hx))) ?_;rintro e w2 ⟨rfl,Nq⟩;exact ⟨_,rfl,hK _ _ Nq rfl⟩
 case g5=>
  intro v w1 hx;(repeat intro (zq:v _=_));intro bb hbb;subst hbb;intro K hK;go_simp;refine Q0e (HC.out w1 (Rq.out.trans (Xq.trans hx))) ?_;rintro e w2 ⟨rfl,rfl⟩;exact ⟨_,rfl,hK _ _ (Ext.refl _) rfl⟩
 case g6=>
  intro v w1 hx;(repeat intro (zq:v _=_));intro bb hbb;subst hbb;refine ⟨_,fun w=>?_,rfl⟩;go_simp
 case g7=>
  intro v w1 hx;(repeat intro (zq:v _=_));intro wl hT;obtain rfl:wl=w1:=hT;intro bb hbb;intro K hK;have o1:bb.eval (.tmp 3)=.pointer (some ⟨gp,0,none⟩):=fze07
  have o2:bb.eval (.tmp 10)=.agg #[.slice X n c,.bool q]:=fzg07
  exact Q1q (.tmp 3) (.tmp 10) _ rfl J4h o1 o2 (K0.out.ext (Xq.trans hx)) rfl rfl Z7x (fun vv w' hb hl ho=>hK _ _ ⟨hb,hl⟩)
 case post =>
  intro v w1 hx;(iterate 7 intro (zq:v _=_));intro w2 hE;replace hE:(fun v w1 w'=>Blk w' gp 167 #[.slice X n c,.bool q] /\ (∀ n,n <= gp -> Below n w1 w')) v w1 w2:=hE;simp only [Flow.acts,Act.put];go_simp;obtain ⟨Nj,Wj⟩:=hE;have uj:Hid (Below w.heap.size W w2):=hid (Below.trans ((Xq.trans hx).mono (by have:=Gy.out; omega)) (Wj _ (by have:=Gy.out; omega)))
  clear hx Xq Wj;(repeat clear zq);go_wp2;refine bodyPost_ret (Q2e results100 rfl Nj K0b J4h) rfl ?_;exact ⟨rfl,Below.trans Rq.out uj.out⟩
def Q4v (ll:List (List Int)) (cl:List ByteArray):List Rul:=ll.map fun h=>⟨h,cl.contains (Q6j h)⟩
def J7o (w:World) (ll:List (List Int)) (cl:List ByteArray) (rs:List (Value × Bool)):Prop:=∀ j (h1:j < rs.length) (h2:j < ll.length),Q0g w rs[j].1 ll[j] /\ rs[j].2=cl.contains (Q6j ll[j])
theorem J7o.snoc {w:World} {ll:List (List Int)} {cl:List ByteArray} {rs:List (Value × Bool)} {k:Nat} (h:J7o w ll cl rs) (hk:rs.length=k) {v:Value} {q:Bool} (Uq:k < ll.length) (hv:Q0g w v ll[k]) (hq:cl.contains (Q6j ll[k])=q):J7o w ll cl (rs ++ [(v,q)]):=fun j h1 h2=>by
 by_cases hj:j < rs.length
 . rw [List.getElem_append_left hj]; exact h j hj h2
 . rw [List.length_append,List.length_singleton] at h1
   have:j=k:=by omega
   subst this;rw [List.getElem_append_right (by omega)]
   simp only [hk,Nat.sub_self,List.getElem_cons_zero];exact ⟨hv,hq.symm⟩
theorem J3z {w w':World} {B:Nat} {ll:List (List Int)} {cl:List ByteArray} {rs:List (Value × Bool)} {v:Value} (h:Q1d w' B 167 2 Z2h v rs) (Dq:rs.length=ll.length) (hl:ll.length <= 4096) (hr:J7o w ll cl rs) (hx:Ext w w'):Q1j w' v (Q4v ll cl):=by
 refine Q1d.rowsOf (l:=Q4v ll cl) h (by rw [Dq,Q4v,List.length_map]) (by rw [Q4v,List.length_map]; omega) Y6l (fun j h1 h2=>?_) (fun c c' x hc hh=>?_)
 . have h3:j < ll.length:=by omega
   obtain ⟨a,b⟩:=hr j h1 h3;have e:(Q4v ll cl)[j]=⟨ll[j],cl.contains (Q6j ll[j])⟩:=by simp [Q4v]
   rw [e];refine ⟨a.ext hx,?_⟩;show Value.bool rs[j].2=_;rw [b]
 . obtain ⟨a,b⟩:=hh
   exact ⟨by rw [<- hc 0 (by omega)]; exact a,by rw [<- hc 1 (by omega)]; exact b⟩
theorem Y1f (w:World) (v:Value) (ll:List (List Int)) (g:Nat) (pv:Value) (cl:List ByteArray) (hv:Q3z w v ll) (Uv:ll.length <= 4096) (hd:∀ h ∈ ll,Digits h) (hh:∀ h ∈ ll,h.length <= 4096) (hg:w.cell? ⟨g,3,none⟩=some pv) (ho:Q0q w 0 9 .string pv cl) (hcl:cl.length <= 100000) :
    Calls prog 98 #[v,.func (.func 100) #[] #[.pointer (some ⟨g,0,none⟩)]] w fun e w'=>∃ x,e=.returned x /\ Q1j w' x (Q4v ll cl) /\ Ext w w':=by
 obtain ⟨i0,hi,dq,fq,Zj⟩:=info_parts J9j;obtain ⟨A,Qq,rfl,hl,Kq,hc⟩:=hv.opened;have HC:=hid hc;have HB:=hid (fun (W:World) (h:List Int) (X:Option Addr) n c (hW:Ext w W) (hm:h ∈ ll) (hi:Q0g w (.slice X n c) h)=>Z7n W h X n c g pv cl (hi.ext hW) (hd h hm) (hh h hm) (hW.cell hg) (ho.below hW) hcl);have dz:=hid (fun (w':World) (v:Value) (rs:List (Value × Bool)) (h:Q1d w' w.heap.size 167 2 Z2h v rs) (Dq:rs.length=ll.length) (hr:J7o w ll cl rs) (hx:Ext w w')=>J3z h Dq Uv hr hx);clear hv hc hd hh hg ho hcl;go_enter func98,ntmps98;go_wp2
 go_loopw [5,10] (fun o i wr=>∃ (k:Nat) (rs:List (Value × Bool)),k <= ll.length /\ i=.int .i64 k /\ rs.length=k /\ Q1d wr w.heap.size 167 2 Z2h o rs /\ J7o w ll cl rs /\ Ext w wr) (fun _ i _=>ll.length - (intOf i).toNat)
 case atStart=>exact ⟨0,[],Nat.zero_le _,rfl,rfl,Q1d.nil _ _ _ _ _,fun j h1=>by simp at h1,Ext.refl _⟩
 case round =>
  obtain ⟨k,rs,hk,rfl,Ov,Yq,ob,hx⟩:=hrel;have HX:=hid hx;have kq:=hid Yq;have cZ:=hid ob;have Dx:=hid Ov
  by_cases Uq:k < ll.length
  . obtain ⟨b,off,m,rfl,-,Wq,hm⟩:=HC.out k Uq
    have D9:ll.getD k []=ll[k]:=Q0u _ Uq;rw [D9] at hm;obtain ⟨Am,tk,rfl,-,-,-⟩:=hm.opened;have lk:=hid (fun (W:World) hW=>HB.out W ll[k] Am _ tk hW (List.getElem_mem Uq) hm);obtain ⟨q,hq⟩:∃ q,cl.contains (Q6j ll[k])=q:=⟨_,rfl⟩;have i8:=hid (cZ.out.snoc Ov Uq hm hq);rw [hq] at lk;obtain ⟨n,hn⟩:∃ n,ll[k].length=n:=⟨_,rfl⟩;rw [hn] at lk i8 Wq;replace Wq:=hx.cell Wq;have zj:(k:Int) < ll.length:=by omega
    have Gg:Hid (rs.length + 1 <= 100000):=hid (by omega)
    have Mv:=hid HX.out.size;obtain ⟨Ao,co,ay,-⟩:=Yq.shape;subst ay;clear D9 hm hq hn Yq ob hx Ov
    go_light
    go_wp2_with (first | (refine (lk.out _ HX.out).mono ?_; rintro e w5 ⟨rfl,yq⟩; have vq:=hid yq; clear yq) | (refine Q2i (o:=⟨some 19,_,_,_,_,_⟩) rfl ?_; refine Q2y (.tmp 14) (.tmp 18) 36 rfl w.heap.size 167 i0 (.agg #[.slice none 0 0,.bool false]) 2 32 underlying36 hi dq fq Zj rfl (by decide) Z2h Y6l _ rs (Value.slice Am n tk,q) rfl (kq.out.below (vq.out.trans (Ext.box _ _))) ⟨w5.heap.size,0,none⟩ 1 rfl (Q6d (xs:=Z2h (Value.slice Am n tk,q)) (Blk.made _ _ _)) (by unfold Z2h; simp [Value.oneCell']) Gg.out (by decide) (by have h1:=(vq.out.trans (Ext.box w5 (.cells #[.slice Am n tk,.bool q] 167))).size; have h2:=Mv.out; omega) ?_; intro v' w9 Oq Pq))
    have Zq:=vq.out.trans (Ext.box w5 (.cells #[.slice Am n tk,.bool q] 167));have Jy:=kq.out.below Zq;have T4:=hid Oq;have uj:Hid (Ext w w9):=hid (Below.grown (HX.out.trans Zq) Pq (by have:=Zq.size; have:=Mv.out; omega) (fun b hb=>(Jy.Q9f b hb).1))
    have Qb:Hid ((rs ++ [(Value.slice Am n tk,q)]).length=k + 1):=hid (by rw [List.length_append,Dx.out]; rfl)
    clear Zq Jy Oq Pq;go_wp2;go_roundw
    case rel=>exact ⟨k + 1,rs ++ [(Value.slice Am n tk,q)],by omega,by go_num,Qb.out,T4.out,i8.out,uj.out⟩
    case measure=>simp [intOf]; omega
  . have lj:k=ll.length:=by omega
    subst lj;clear Yq ob hx;go_wp2;go_ret;exact ⟨_,rfl,dz.out _ _ _ kq.out Dx.out cZ.out HX.out,HX.out⟩
end Go.Proofs
namespace Go.Tw
open Go.RowKit Go.Flow
def Z4o (s:Q0b) (need:Int):Int:=Q0o [s.err,Q0j need 0 8000]
def Y5x (s:Q0b) (need:Int):Int × Int × Int:=if Z4o s need ≠ 0 then (0,0,Z4o s need) else match Y5r s need with
 | none=>(0,0,24)
 | some x=>(x.closings,x.delay,0)
def Y8l (s:Q0b) (need:Int):List Rul:=if Z4o s need ≠ 0 then [] else match Y5r s need with
 | none=>[]
 | some x=>Y1o s x
def Z2s (s:Q0b) (need:Int) (k:Nat):Option Plan:=((Q3m s).take k).foldl (Q2m need) none
theorem Z5d {s:Q0b} {need:Int} {k:Nat} {x:Plan} (h:(Q3m s)[k]?=some x):Z2s s need (k + 1)=Q2m need (Z2s s need k) x:=by
 obtain ⟨hk,rfl⟩:=List.getElem?_eq_some_iff.1 h;unfold Z2s;rw [List.take_succ_eq_append_getElem hk,List.foldl_append]; rfl
theorem Z9h (s:Q0b) (need:Int):Z2s s need (Q3m s).length=Y5r s need:=by unfold Z2s Y5r; rw [List.take_length]
end Go.Tw
namespace Go.Proofs
open Go.RowKit Go.Tw Go.Flow Tryz
attribute [local go_sem] Oper.semAt_some
theorem Q9t {P:Program} {fn:Func} {p q r t:Tmp} {T:TypeId} (h:fn.results=#[.cell p T,.tmp q,.tmp r,.tmp t]) {tmps:Array Value} {w:World} {g:Nat} (ht:tmps.getD p undef=.pointer (some ⟨g,0,none⟩)) {BT:TypeId} {cs:Array Value} (hb:Blk w g BT cs)
    (hA:∀ w,(isAgg T).run P w=.ok true w) (hS:∀ w,(sizeOf T).run P w=.ok cs.size w) {a b c:Value} (hq:tmps.getD q undef=a) (hr:tmps.getD r undef=b) (hc:tmps.getD t undef=c):(results fn tmps).run P w=.ok (.tuple #[.agg cs,a,b,c]) w:=by
 unfold results;rw [h];simp only [List.mapM_toArray,List.mapM_cons,List.mapM_nil,Sem.run_bind,Sem.run_pure,ht,hq,hr,hc,asAddr];simp [Q4j hb hA hS]
theorem Q5j {P:Program} {ops:Array Oper} {Q:Exit -> Act -> World -> Prop} {rest:List Oper} {a:Act} {w:World} {T ty:TypeId} {p x:Operand} {pos} {after} (h:wpList P ops Q (⟨none,.store T p x,ty,pos,after,none⟩ :: rest) a w):wpList P ops Q (⟨none,.store T p x,ty,pos,after,none⟩ :: rest) a w:=h
def J2t (s:Q0b) (need:Int) (e:Ending) (w':World):Prop:=∃ x,e=.returned (.tuple #[.agg #[x],.int .i64 (Y5x s need).1,.int .i64 (Y5x s need).2.1,.int .i64 (Y5x s need).2.2]) /\ Q1j w' x (Y8l s need)
theorem X0z {A:Option Addr} {n c:Nat}:∀ u ∈ (#[Value.slice A n c]:Array Value).toList,u.oneCell'=true:=by
 intro u hu;simp only [List.mem_cons,List.not_mem_nil,or_false] at hu;subst hu; rfl
def J4s (w:World) (g:Nat):Option Plan -> Prop
 | none=>Blk w g 159 #[.int .i64 0,.int .i64 0,.int .i64 0,.slice none 0 0]
 | some o=>∃ A n c,Blk w g 159 #[.int .i64 o.weight,.int .i64 o.closings,.int .i64 o.delay,.slice A n c] /\ Q0q w 0 9 .string (.slice A n c) o.closed
theorem Y0b {O:Nat} {a b c:World} (h:Off O a b) (hl:∀ n,n <= O -> Below n b c) (ho:∀ k,k ≠ O -> c.heap[k]?=b.heap[k]?):Off O a c :=
 ⟨h.1.trans (hl O (Nat.le_refl _)),Nat.le_trans h.2.1 (hl O (Nat.le_refl _)).size,fun k hk hne=>(ho k hne).trans (h.2.2 k hk hne)⟩
theorem Q2c {a b:Int} (h:Q0o [a,b]=0):a=0 /\ b=0:=by
 unfold Q0o at h
 by_cases ha:a=0
 . subst ha
   simp [Q0o] at h;exact ⟨rfl,by by_cases hb:b=0 <;> simp_all⟩
 . rw [if_neg ha] at h; exact absurd h ha
def X6o (g:Nat) (T:TypeId) (cs:Array Value) (a b:World):Prop:=(∀ n,n <= g -> n <= a.heap.size -> Below n a b) /\ (∀ k,k < a.heap.size -> k ≠ g -> b.heap[k]?=a.heap[k]?) /\ (Blk a g T cs -> Blk b g T cs)
theorem X6o.refl (g:Nat) (T:TypeId) (cs:Array Value) (a:World):X6o g T cs a a:=⟨fun _ _ _=>Below.refl _ _,fun _ _ _=>rfl,id⟩
theorem X6o.size {g:Nat} {T:TypeId} {cs:Array Value} {a b:World} (h:X6o g T cs a b):a.heap.size <= b.heap.size:=(h.1 0 (Nat.zero_le _) (Nat.zero_le _)).size
theorem X6o.trans {g:Nat} {T:TypeId} {cs:Array Value} {a b c:World} (h:X6o g T cs a b) (k:X6o g T cs b c):X6o g T cs a c :=
 ⟨fun n hn hs=>(h.1 n hn hs).trans (k.1 n hn (Nat.le_trans hs h.size)),fun j hj hne=>(k.2.1 j (Nat.lt_of_lt_of_le hj h.size) hne).trans (h.2.1 j hj hne),fun x=>k.2.2 (h.2.2 x)⟩
theorem X6o.ext {g:Nat} {T:TypeId} {cs:Array Value} {a b:World} (h:Ext a b):X6o g T cs a b :=
 ⟨fun _ _ hs=>h.below hs,fun k hk _=>h.block k hk,fun x=>x.ext h⟩
theorem X6o.blk {g j:Nat} {T S:TypeId} {cs ds:Array Value} {a b:World} (h:X6o g T cs a b) (hb:Blk a j S ds) (hne:j ≠ g):Blk b j S ds:=(h.2.1 j hb.lt hne).trans hb
theorem X4d {a b:World} {g i k:Nat} {u:Value} (h:a.cell? ⟨i,k,none⟩=some u) (hne:i ≠ g) (hk:∀ k,k < a.heap.size -> k ≠ g -> b.heap[k]?=a.heap[k]?):b.cell? ⟨i,k,none⟩=some u:=by
 have Uq:i < a.heap.size:=World.block_lt_of_cell? a _ h;rw [<- h];unfold World.cell?;rw [hk i Uq hne]
theorem X6s {a:World} {g i k n c:Nat} {T:TypeId} {A:Option Addr} {u:Value} (hg:Blk a g T #[.slice A n c]) (h:a.cell? ⟨i,k,none⟩=some u) (hu:∀ A n c,u ≠ .slice A n c):i ≠ g:=by
 rintro rfl;rw [hg.cell] at h;cases k with
 | zero=>simp at h; exact hu _ _ _ h.symm
 | succ k=>simp at h
theorem J0u {a b:World} {g n c:Nat} {T:TypeId} {A:Option Addr} {v:Value} {l:List Int} (h:Q0g a v l) (hg:Blk a g T #[.slice A n c]) (hk:∀ k,k < a.heap.size -> k ≠ g -> b.heap[k]?=a.heap[k]?):Q0g b v l:=by
 obtain ⟨f,⟨A',Qq,hv,hn,Kq,hc⟩,h2⟩:=h;refine ⟨f,⟨A',Qq,hv,hn,Kq,fun j hj=>?_⟩,h2⟩;obtain ⟨b',off,hA,Wq⟩:=hc j hj;have e:=h2 j (by omega)
 simp only [Nat.mul_one,Nat.add_zero] at e;exact ⟨b',off,hA,X4d Wq (X6s hg Wq (by rw [e]; intro _ _ _ hh; cases hh)) hk⟩
theorem X4z {a b:World} {g n c:Nat} {T:TypeId} {A:Option Addr} {v:Value} {l:List Rul} (h:Q1j a v l) (hg:Blk a g T #[.slice A n c]) (hk:∀ k,k < a.heap.size -> k ≠ g -> b.heap[k]?=a.heap[k]?):Q1j b v l:=by
 obtain ⟨f,⟨A',Qq,hv,hn,Kq,hc⟩,h2⟩:=h;refine ⟨f,⟨A',Qq,hv,hn,Kq,fun j hj=>?_⟩,fun j hj=>?_⟩
 . obtain ⟨b',off,hA,Wq⟩:=hc j hj
   obtain ⟨b2,off2,JX,eQ⟩:=hc (j / 2 * 2 + 1) (by omega)
   rw [hA] at JX;injection JX with JX;injection JX with e1 e2 _;subst e1;have e:=(h2 (j / 2) (by omega)).2
   simp only at e;exact ⟨b',off,hA,X4d Wq (X6s hg eQ (by rw [e]; intro _ _ _ hh; cases hh)) hk⟩
 . obtain ⟨x,y⟩:=h2 j hj
   exact ⟨J0u x hg hk,y⟩
theorem Z6d {s:Q0b} (hS:Q0r s):∀ h ∈ s.hist,h.length <= 4096:=fun h hh=>by
 obtain ⟨t,ht,k,hk,rfl⟩:=(Q0b.Q4k _ _).1 hh;rw [List.length_take];have h1:=(hS.shaped k hk).1;have h2:=hS.tides;omega
theorem J4g {s:Q0b} {need:Int} {x:Plan} (h:Y5r s need=some x):x ∈ Q3m s:=by
 have go:∀ (l:List Plan) (b:Option Plan),l.foldl (Q2m need) b=some x -> x ∈ l ∨ b=some x:=by
  intro l
  induction l with
  | nil=>intro b h; exact .inr h
  | cons y l ih =>
    intro b h
    rcases ih _ h with h | h
    . exact .inl (List.mem_cons_of_mem _ h)
    . unfold Q2m at h
      split at h
      . exact .inr h
      . split at h
        . injection h with h; exact .inl (by rw [<- h]; exact List.mem_cons_self)
        . split at h
          . injection h with h; exact .inl (by rw [<- h]; exact List.mem_cons_self)
          . exact .inr h
 rcases go _ _ h with h | h
 . exact h
 . cases h
theorem Y7i (w:World) (v:Value) (s:Q0b) (need:Int) (hv:Q0i w v s) (hs:Q2r s) (hF:s.hist.length <= 9) :
    Calls prog 21 #[v,.int .i64 need] w fun e w'=>J2t s need e w' /\ Ext w w':=by
 obtain ⟨a,b,rfl,h2⟩:=hv;obtain ⟨A,Tq,rfl,-,-,-⟩:=h2.ships.opened;obtain ⟨B,Vq,rfl,-,-,-⟩:=h2.members.opened;have H2:=hid h2;have HS:=hid hs;have Lv:=hid hF;clear h2 hs hF;go_enter func21,ntmps21;go_wp2_with fail;change Calls _ _ _ ((w.alloc (.cells #[.int .i64 s.limit,.slice A s.ships.length Tq,.slice B s.members.length Vq] 34)).alloc (.cells #[.slice none 0 0] 38)) _;obtain ⟨W,Mq,k0,k1,Rq,eW⟩:=Q4p w 34 #[.int .i64 s.limit,.slice A s.ships.length Tq,.slice B s.members.length Vq] 38 #[.slice none 0 0];rw [Mq];clear Mq;have K0:=hid k0;have K1:=hid k1;obtain ⟨gs,Rj⟩:∃ z,w.heap.size=z:=⟨_,rfl⟩;have rx:=hid Rj;rw [Rj] at K0 K1 eW ⊢;clear k0 k1 Rj;refine (Q2k _ _ s ⟨_,_,rfl,H2.out.ext Rq.out⟩ HS.out).mono ?_;rintro e w5 ⟨rfl,yq⟩;have Pj:=hid yq;have Yw:Hid (Z4o s need=Q0o [s.err,Q0j need 0 8000]):=hid rfl;obtain ⟨E,hE⟩:∃ E,s.err=E:=⟨_,rfl⟩;have HE:=hid hE;rw [hE] at Yw ⊢;have ek:=hid (X4v w5 need);obtain ⟨R,hR⟩:∃ R,Q0j need 0 8000=R:=⟨_,rfl⟩;have HR:=hid hR;rw [hR] at Yw ek;have r6:=hid (first_any (w5.alloc (.cells #[.int .i64 E,.int .i64 R] 29)) _ [E,R] (Q3d (by simp)))
 rw [<- Yw.out] at r6;obtain ⟨F,GX⟩:∃ F,Z4o s need=F:=⟨_,rfl⟩;have qK:=hid GX;rw [GX] at r6;clear yq hE hR GX;go_wp2_with (first | (go_at_call 97; refine ek.out.mono ?_; rintro e w6 ⟨rfl,rfl⟩; refine halted ?_) | fail)
 unfold Q1o
 by_cases hf:F=0
 . have hz:=Q2c (Yw.out.symm.trans (qK.out.trans hf))
   have L6:s.err=0:=HE.out.trans hz.1;have hV:=Q0r.of L6;have HV:=hid hV;have Sk:=Q7p hV s.ships.length (Nat.le_refl _) (Y4o s) Q8b Q9l;have rK:Q2v s s.ships.length (Y4o s)=Q3m s:=rfl;rw [rK] at Sk;have K5:(Q3m s).length <= 512:=by
    have h1:2 ^ X7d s (s.ships.length - s.ships.length) (Y4o s) <= 2 ^ 9:=Nat.pow_le_pow_right (by omega) (Nat.le_trans (X8z _ _) Lv.out)
    omega
   have Vx:=hid K5;have pz:Hid (∀ x ∈ Q3m s,x.closed.length <= 100000):=hid (fun x hx=>by have:=(Sk.2 x hx).l; have:=X8z (s:=s) (s.ships.length - s.ships.length) (Y4o s); have:=Lv.out; omega)
   have t6:Hid (∀ o,Y5r s need=o -> Y5x s need=(match o with | none=>(0,0,24) | some x=>(x.closings,x.delay,0)) /\ Y8l s need=(match o with | none=>[] | some x=>Y1o s x)):=hid (fun o ho=>⟨by unfold Y5x; rw [qK.out,if_neg (by simp [hf]),ho],by unfold Y8l; rw [qK.out,if_neg (by simp [hf]),ho]⟩)
   have hne:(F != 0)=false:=by simp [hf]
   have Lq:Hid (Ext w (w5.alloc (.cells #[.int .i64 E,.int .i64 R] 29))):=hid (Rq.out.trans (Pj.out.trans (Ext.box _ _)));have BY:=(K0.out.ext Pj.out).ext (Ext.box w5 (.cells #[.int .i64 E,.int .i64 R] 29));have mb:=(K1.out.ext Pj.out).ext (Ext.box w5 (.cells #[.int .i64 E,.int .i64 R] 29));obtain ⟨wa,FX⟩:∃ z,w5.alloc (.cells #[.int .i64 E,.int .i64 R] 29)=z:=⟨_,rfl⟩;rw [FX] at r6 Lq BY mb;have Vh:=Blk.made wa 159 #[.int .i64 0,.int .i64 0,.int .i64 0,.slice none 0 0];have AY:=Ext.box wa (.cells #[.int .i64 0,.int .i64 0,.int .i64 0,.slice none 0 0] 159);have zY:=BY.ext AY;have c0:=(zY).cell 0;have c1:=(zY).cell 1;have c2:=(zY).cell 2;simp only [Go.Tw.gA,Go.Tw.gB,Go.Tw.gC] at c0 c1 c2;have xn:=hid BY;have G4:=hid mb;have ik:=hid Vh;have jq:=hid AY;have Rk:=hid (Y8f (wa.alloc (.cells #[.int .i64 0,.int .i64 0,.int .i64 0,.slice none 0 0] 159)) _ s ⟨_,_,rfl,H2.out.ext (Lq.out.trans AY)⟩ hV Lv.out);clear hz L6 hV Sk rK K5 BY mb Vh AY zY;go_wp2_with (first | (go_at_call 96; (try rw [FX]); refine r6.out.mono ?_; rintro e w7 ⟨rfl,rfl⟩) | (go_at_call 94; refine Rk.out.mono ?_; rintro e w6 ⟨x6,qs6,rfl,h1,h2,h3,h4⟩; refine halted ?_))
   have N3:=hid h1;have zK:=hid h2;have j8:=hid h3;have bj:=hid h4;obtain ⟨A6,c6,jb,-⟩:=h1.shape;subst jb;have fQ:Hid (qs6.length=(Q3m s).length):=hid (by rw [<- h3,List.length_map])
   obtain ⟨gb,xw⟩:∃ z,wa.heap.size=z:=⟨_,rfl⟩;have t8:=hid xw;have Uh:Hid (J4s w6 gb none):=hid (by rw [<- xw]; exact ik.out.ext h4)
   have vn:Hid (Blk w6 gs 34 #[.int .i64 s.limit,.slice A s.ships.length Tq,.slice B s.members.length Vq]):=hid (xn.out.ext (jq.out.trans h4));have un:Hid (Blk w6 (gs + 1) 38 #[.slice none 0 0]):=hid (G4.out.ext (jq.out.trans h4));have yY:Hid (gs + 1 < gb):=hid (by have:=G4.out.lt; omega)
   have za:Hid (gb < (wa.alloc (.cells #[.int .i64 0,.int .i64 0,.int .i64 0,.slice none 0 0] 159)).heap.size):=hid (by have:=ik.out.lt; omega)
   have ib:=hid (Lq.out.trans (jq.out.trans h4));rw [xw];obtain ⟨L,hL⟩:∃ z,qs6.length=z:=⟨_,rfl⟩;have HL:=hid hL;rw [hL];have Wj:L <= 512:=by have:=Vx.out; rw [<- hL,fQ.out]; exact this
   clear h1 h2 h3 h4 xw hL c0 c1 c2;unfold Q1o;go_wp2
   go_loopw [10,27] (fun f i wr=>∃ (k:Nat) (b:Option Plan),k <= L /\ i=.int .i64 k /\ f=.bool b.isSome /\ Off gb w6 wr /\ J4s wr gb b /\ b=Z2s s need k) (fun _ i _=>L - (intOf i).toNat)
   case atStart=>exact ⟨0,none,Nat.zero_le _,rfl,rfl,Off.refl _ _,Uh.out,rfl⟩
   case round =>
    obtain ⟨k,b,hk,rfl,rfl,O0,J5,xj⟩:=hrel;have R5:=hid O0;have s7:=hid J5;have ly:=hid xj
    by_cases Uq:k < L
    . have Oj:k < qs6.length:=by rw [HL.out]; exact Uq
      have zj:(k:Int) < L:=by omega
      have Ux:∃ cs,Blk wr gb 159 cs:=by cases b with
       | none=>exact ⟨_,J5⟩
       | some o=>obtain ⟨_,_,_,h,_⟩:=J5; exact ⟨_,h⟩
      have G5:∃ cs,Blk w6 gb 159 cs:=⟨_,Uh.out⟩;obtain ⟨cs6,G5⟩:=G5;have dx:=zK.out.off G5 (fun j hj hne=>O0.2.2 j hj hne);have bw:=hid dx;obtain ⟨A',cv',aj,Gj⟩:=Q8c (Q1d.off N3.out za.out O0);injection aj with aj d6 fb;subst aj;subst fb;obtain ⟨gq,rfl,Wq⟩:=Gj.out k Oj;have e0:=Wq 0 (by omega)
      have e1:=Wq 1 (by omega)
      have e2:=Wq 2 (by omega)
      have e3:=Wq 3 (by omega)
      obtain ⟨A4,n4,c4,ox⟩:=dx.shape (List.getElem_mem Oj);have jx:(Q3m s)[k]?=some qs6[k].1:=by rw [<- j8.out,List.getElem?_map,List.getElem?_eq_getElem Oj]; rfl
      have hcl:=dx qs6[k] (List.getElem_mem Oj);obtain ⟨qk,Jx⟩:∃ z,qs6[k]=z:=⟨_,rfl⟩;rw [Jx] at e0 e1 e2 e3 ox hcl jx;obtain ⟨x,xv⟩:=qk;replace ox:xv=.slice A4 n4 c4:=ox;subst ox;have Sj:Hid (Z2s s need (k + 1)=Q2m need b x):=hid (by rw [Z5d jx,<- xj])
      have dQ:=hid hcl;rw [Nat.add_zero] at e0;obtain ⟨x1,aq⟩:∃ z,x.weight=z:=⟨_,rfl⟩;obtain ⟨x2,Nq⟩:∃ z,x.closings=z:=⟨_,rfl⟩;obtain ⟨x3,yj⟩:∃ z,x.delay=z:=⟨_,rfl⟩;have Qx:=hid (show x.weight=x1 /\ x.closings=x2 /\ x.delay=x3 from ⟨aq,Nq,yj⟩)
      replace e0:wr.cell? ⟨gq,k * 4,none⟩=some (.int .i64 x1):=by rw [<- aq]; exact e0
      replace e1:wr.cell? ⟨gq,k * 4 + 1,none⟩=some (.int .i64 x2):=by rw [<- Nq]; exact e1
      replace e2:wr.cell? ⟨gq,k * 4 + 2,none⟩=some (.int .i64 x3):=by rw [<- yj]; exact e2
      replace e3:wr.cell? ⟨gq,k * 4 + 3,none⟩=some (.slice A4 n4 c4):=e3;have Bq:=Ext.box wr (.cells #[.int .i64 x1,.int .i64 x2,.int .i64 x3,.slice A4 n4 c4] 159);have K3:=Blk.made wr 159 #[.int .i64 x1,.int .i64 x2,.int .i64 x3,.slice A4 n4 c4];have uz:=hid Bq;have My:=hid K3;have C1:Hid (gb <= wr.heap.size):=hid (by obtain ⟨cs,h⟩:=Ux; exact Nat.le_of_lt h.lt)
      have d0:=(K3).cell 0;have d1:=(K3).cell 1;have d2:=(K3).cell 2;have d3:=(K3).cell 3;simp only [Go.Tw.gA,Go.Tw.gB,Go.Tw.gC] at d0 d1 d2 d3;clear Wq Jx aq Nq yj hcl jx Oj O0 xj dx G5 Ux
      by_cases hw:x1 < need
      . have jk:Hid (Q2m need b x=b):=hid (by unfold Q2m; rw [if_pos (by rw [Qx.out.1]; exact hw)])
        clear J5 Bq K3
        go_light
        go_wp2;go_roundw
        case rel =>
         refine ⟨k + 1,b,by omega,by go_num,rfl,Off.ext R5.out uz.out C1.out,?_,by rw [Sj.out,jk.out]⟩
         cases b with
         | none=>exact Blk.ext s7.out uz.out
         | some o=>obtain ⟨A,n,c,h,h'⟩:=s7.out; exact ⟨A,n,c,h.ext uz.out,h'.below uz.out⟩
        case measure=>simp [intOf]; omega
      . have xY:¬ x.weight < need:=by rw [Qx.out.1]; exact hw
        cases b with
        | none =>
          have jk:Hid (Q2m need none x=some x):=hid (by unfold Q2m; rw [if_neg xY])
          have Gz:Blk (wr.alloc (.cells #[.int .i64 x1,.int .i64 x2,.int .i64 x3,.slice A4 n4 c4] 159)) gb 159 #[.int .i64 0,.int .i64 0,.int .i64 0,.slice none 0 0]:=Blk.ext J5 Bq;clear J5 Bq K3 xY
          go_light
          go_wp2_with (with_reducible (refine Q5j ?_); refine Q0t rfl _ _ _ rfl X9k rfl rfl Gz rfl rfl X4s ?_; intro w9 Nj Wj cj);have sg:=hid Nj;have F5:=hid (Y0b (Off.ext R5.out uz.out C1.out) Wj cj);have D1:Hid (Q0q w9 0 9 .string (.slice A4 n4 c4) x.closed):=hid (by
           have h:=Q0v.off (w':=w9) (ps:=[((x,Value.slice A4 n4 c4):PV)]) (g:=gb) (fun q hq=>by obtain rfl:=List.mem_singleton.1 hq; exact dQ.out.below uz.out) Gz (fun k _ hk=>cj k hk)
           exact h _ (List.mem_singleton.2 rfl))
          clear Nj Wj cj Gz;go_wp2;go_roundw
          case rel=>exact ⟨k + 1,some x,by omega,by go_num,rfl,F5.out,⟨A4,n4,c4,by rw [Qx.out.1,Qx.out.2.1,Qx.out.2.2]; exact sg.out,D1.out⟩,by rw [Sj.out,jk.out]⟩
          case measure=>simp [intOf]; omega
        | some o =>
          obtain ⟨Ao,no,co,Zx,r7⟩:=J5;have Gz:=Zx.ext Bq;have U2:Hid (Q2m need (some o) x=if x.closings < o.closings ∨ x.closings=o.closings /\ x.delay < o.delay then some x else some o):=hid (by unfold Q2m; rw [if_neg xY])
          rw [Qx.out.2.1,Qx.out.2.2] at U2;obtain ⟨o1,cQ⟩:∃ z,o.weight=z:=⟨_,rfl⟩;obtain ⟨o2,d8⟩:∃ z,o.closings=z:=⟨_,rfl⟩;obtain ⟨o3,M3⟩:∃ z,o.delay=z:=⟨_,rfl⟩;rw [d8,M3] at U2;rw [cQ,d8,M3] at Gz;have g0:=(Gz).cell 0;have g1:=(Gz).cell 1;have g2:=(Gz).cell 2;have g3:=(Gz).cell 3;simp only [Go.Tw.gA,Go.Tw.gB,Go.Tw.gC] at g0 g1 g2 g3;clear Zx r7 Bq K3 xY cQ d8 M3
          by_cases Nx:x2 < o2
          . have jk:Hid (Q2m need (some o) x=some x):=hid (by rw [U2.out,if_pos (.inl Nx)])
            go_light
            go_wp2_with (with_reducible (refine Q5j ?_); refine Q0t rfl _ _ _ rfl X9k rfl rfl Gz rfl rfl X4s ?_; intro w9 Nj Wj cj);have sg:=hid Nj;have F5:=hid (Y0b (Off.ext R5.out uz.out C1.out) Wj cj);have D1:Hid (Q0q w9 0 9 .string (.slice A4 n4 c4) x.closed):=hid (by
             have h:=Q0v.off (w':=w9) (ps:=[((x,Value.slice A4 n4 c4):PV)]) (g:=gb) (fun q hq=>by obtain rfl:=List.mem_singleton.1 hq; exact dQ.out.below uz.out) Gz (fun k _ hk=>cj k hk)
             exact h _ (List.mem_singleton.2 rfl))
            clear Nj Wj cj Gz;go_wp2;go_roundw
            case rel=>exact ⟨k + 1,some x,by omega,by go_num,rfl,F5.out,⟨A4,n4,c4,by rw [Qx.out.1,Qx.out.2.1,Qx.out.2.2]; exact sg.out,D1.out⟩,by rw [Sj.out,jk.out]⟩
            case measure=>simp [intOf]; omega
          . by_cases Yx:x2=o2
            . by_cases tn:x3 < o3
              . have jk:Hid (Q2m need (some o) x=some x):=hid (by rw [U2.out,if_pos (.inr ⟨Yx,tn⟩)])
                subst Yx
                go_light
                go_wp2_with (with_reducible (refine Q5j ?_); refine Q0t rfl _ _ _ rfl X9k rfl rfl Gz rfl rfl X4s ?_; intro w9 Nj Wj cj);have sg:=hid Nj;have F5:=hid (Y0b (Off.ext R5.out uz.out C1.out) Wj cj);have D1:Hid (Q0q w9 0 9 .string (.slice A4 n4 c4) x.closed):=hid (by
                 have h:=Q0v.off (w':=w9) (ps:=[((x,Value.slice A4 n4 c4):PV)]) (g:=gb) (fun q hq=>by obtain rfl:=List.mem_singleton.1 hq; exact dQ.out.below uz.out) Gz (fun k _ hk=>cj k hk)
                 exact h _ (List.mem_singleton.2 rfl))
                clear Nj Wj cj Gz;go_wp2;go_roundw
                case rel=>exact ⟨k + 1,some x,by omega,by go_num,rfl,F5.out,⟨A4,n4,c4,by rw [Qx.out.1,Qx.out.2.1,Qx.out.2.2]; exact sg.out,D1.out⟩,by rw [Sj.out,jk.out]⟩
                case measure=>simp [intOf]; omega
              . have jk:Hid (Q2m need (some o) x=some o):=hid (by rw [U2.out,if_neg (by omega)])
                subst Yx;clear Gz
                go_light
                go_wp2;go_roundw
                case rel=>exact ⟨k + 1,some o,by omega,by go_num,rfl,Off.ext R5.out uz.out C1.out,(by obtain ⟨A,n,c,h,h'⟩:=s7.out; exact ⟨A,n,c,h.ext uz.out,h'.below uz.out⟩),by rw [Sj.out,jk.out]⟩
                case measure=>simp [intOf]; omega
            . have jk:Hid (Q2m need (some o) x=some o):=hid (by rw [U2.out,if_neg (by omega)])
              clear Gz
              go_light
              go_wp2;go_roundw
              case rel=>exact ⟨k + 1,some o,by omega,by go_num,rfl,Off.ext R5.out uz.out C1.out,(by obtain ⟨A,n,c,h,h'⟩:=s7.out; exact ⟨A,n,c,h.ext uz.out,h'.below uz.out⟩),by rw [Sj.out,jk.out]⟩
              case measure=>simp [intOf]; omega
    . have lj:k=L:=by omega
      subst lj;have Dq:(Q3m s).length=k:=by rw [<- fQ.out]; exact HL.out
      have pK:Y5r s need=b:=by rw [<- Z9h,Dq]; exact xj.symm
      have HB:=hid (t6.out b pK);have N0:Blk wr (gs + 1) 38 #[.slice none 0 0]:=un.out.below O0.1 yY.out;have Ax:Blk wr gs 34 #[.int .i64 s.limit,.slice A s.ships.length Tq,.slice B s.members.length Vq]:=vn.out.below O0.1 (by have:=yY.out; omega)
      have Yy:Hid (Ext w wr):=hid (Below.trans ib.out (O0.1.mono (by have:=yY.out; have:=rx.out; omega)))
      have R4:=hid Ax;have Th:=hid N0;clear O0 xj Dq;cases b with
      | none =>
        clear J5 Ax pK;go_wp2_with (with_reducible (refine Q5j ?_); refine Q0t rfl _ _ _ rfl Q2w rfl rfl N0 rfl rfl X0z ?_; intro w9 Nj Wj cj);refine bodyPost_ret (Q9t results21 rfl Nj Q5z Q2w rfl rfl rfl) rfl ?_;exact ⟨⟨_,by rw [HB.out.1]; rfl,by rw [HB.out.2]; exact Go.Tw.Rows.nil _ _ _⟩,Below.trans Yy.out (Wj _ (by have:=rx.out; omega))⟩
      | some o =>
        obtain ⟨Ao,no,co,Zx,r7⟩:=J5;have ez:=hid Zx;have Sh:o ∈ Q3m s:=J4g pK;have p6:=hid (J6v HV.out.toFine pK);have D6:=hid (Q8i wr _ s ⟨_,_,rfl,H2.out.ext Yy.out⟩ HV.out);have Rx:=hid (pz.out o Sh);have sn:=hid r7;have c0:=(Ax).cell 0;have c1:=(Ax).cell 1;have c2:=(Ax).cell 2;simp only [Go.Tw.gA,Go.Tw.gB,Go.Tw.gC] at c0 c1 c2;clear Zx r7 Ax N0 Sh pK;go_wp2_with (go_at_call 99; refine D6.out.mono ?_; rintro e w7 ⟨x7,rfl,h1,h2⟩; refine halted ?_);have mg:=hid h2;obtain ⟨A7,c7,oK,-,-,-⟩:=h1.opened;subst oK;have A3:=hid (Y1f w7 _ s.hist gb (.slice Ao no co) o.closed h1 (by have:=Lv.out; omega) (fun h hh=>Y0p HV.out h hh) (fun h hh=>Z6d HV.out h hh) ((ez.out.ext h2).cell 3) (sn.out.below h2) Rx.out)
        clear h1 h2;unfold Q1o;go_wp2_with (go_at_call 98; refine A3.out.mono ?_; rintro e w8 ⟨x8,rfl,h1,h2⟩; refine halted ?_);have uw:=hid (mg.out.trans h2);obtain ⟨R8,c8,F8,-,-,-⟩:=h1.opened;subst F8;have qn:=hid h1;clear h1 h2;unfold Q1o;go_wp2;obtain ⟨o1,cQ⟩:∃ z,o.weight=z:=⟨_,rfl⟩;obtain ⟨o2,d8⟩:∃ z,o.closings=z:=⟨_,rfl⟩;obtain ⟨o3,M3⟩:∃ z,o.delay=z:=⟨_,rfl⟩;have nK:=hid (show o.closings=o2 /\ o.delay=o3 from ⟨d8,M3⟩)
        have Zx:=ez.out;rw [cQ,d8,M3] at Zx;have ak:=Ext.box w8 (.cells #[.slice R8 (Q4v s.hist o.closed).length c8] 38);have vY:=Blk.made w8 38 #[.slice R8 (Q4v s.hist o.closed).length c8];obtain ⟨wz,F6⟩:∃ z,w8.alloc (.cells #[.slice R8 (Q4v s.hist o.closed).length c8] 38)=z:=⟨_,rfl⟩;rw [F6] at ak vY ⊢;obtain ⟨gz,Rh⟩:∃ z,w8.heap.size=z:=⟨_,rfl⟩;rw [Rh] at vY ⊢;have eb:=hid (uw.out.trans ak);have KZ:=hid vY;have KS:=hid (R4.out.ext (uw.out.trans ak));have KB:=hid (Zx.ext (uw.out.trans ak));have Zc:=hid (qn.out.ext ak);have bQ:=hid (fun (W:World) (hW:Ext wz W)=>Y1e W (.agg #[.int .i64 s.limit,.slice A s.ships.length Tq,.slice B s.members.length Vq]) (.agg #[.slice R8 (Q4v s.hist o.closed).length c8]) s (Y1o s o) ⟨_,_,rfl,H2.out.ext (Yy.out.trans (eb.out.trans hW))⟩ ⟨_,rfl,Zc.out.ext hW⟩ HV.out (Q1n.2 (by simp [Y1o,Function.comp_def])))
        rw [p6.out.2.2.1,p6.out.2.2.2,d8,M3] at bQ;have Yc:Hid (gz ≠ gs + 1):=hid (by have h1:=Th.out.lt; have h2:=uw.out.size; omega)
        obtain ⟨n8,b8⟩:∃ z,(Q4v s.hist o.closed).length=z:=⟨_,rfl⟩;rw [b8] at KZ Zc bQ ⊢;have Xq:=(Ext.refl wz).drew;clear Zx ak vY F6 Rh b8 cQ d8 M3 c0 c1 c2;refine Flow.Q1h [.w,.w,.w,.p,.w,.p] [0,1,2,3,4,5] [[],[],[0,1],[],[3],[2,4]]
         [.c 0 (.agg #[.int .i64 s.limit,.slice A s.ships.length Tq,.slice B s.members.length Vq]),.c 1 (.agg #[.slice R8 n8 c8]),.c 2 (.agg #[.int .i64 o2,.int .i64 o3]),.c 3 (.pointer (some ⟨gb,1,none⟩)),.c 4 (.agg #[.int .i64 o2,.int .i64 o3]),.c 5 (.bool false)]
         (by kernel_rfl) rfl (by kernel_rfl) ⟨?g0,?g1,?g2,?g3,?g4,?g5,trivial⟩ ?post
        case g0=>
         intro v w1 hx;intro bb hbb;intro K hK;have o1:bb.eval (.tmp 2)=.pointer (some ⟨gs,0,none⟩):=fze07
         exact Q0k (.tmp 2) _ rfl X7u Q8v o1 (KS.out.ext (Xq.trans hx)) rfl (hK _ _ (Ext.refl _) rfl)
        case g1=>
         intro v w1 hx;intro bb hbb;intro K hK;have o1:bb.eval (.tmp 13)=.pointer (some ⟨gz,0,none⟩):=fze07
         exact Q0k (.tmp 13) _ rfl Q5z Q2w o1 (KZ.out.ext (Xq.trans hx)) rfl (hK _ _ (Ext.refl _) rfl)
        case g2=>
         intro v w1 hx;(repeat intro (zq:v _=_));intro bb hbb;subst hbb;intro K hK;go_simp;refine Q0e (bQ.out w1 (Xq.trans hx)) ?_;rintro e w2 ⟨rfl,Nq⟩;exact ⟨_,rfl,hK _ _ Nq rfl⟩
        case g3=>
         intro v w1 hx;intro bb hbb;subst hbb;refine ⟨_,fun w=>?_,rfl⟩;go_simp
        case g4=>
         intro v w1 hx;(repeat intro (zq:v _=_));intro bb hbb;intro K hK;have o1:bb.eval (.tmp 77)=.pointer (some ⟨gb,1,none⟩):=fzg07
         exact Q7c (.tmp 77) _ rfl Y2k Q8o o1 ((Y6y KB.out).ext (Xq.trans hx)) rfl (hK _ _ (Ext.refl _) rfl)
        case g5=>
         intro v w1 hx;(repeat intro (zq:v _=_));intro bb hbb;subst hbb;refine ⟨_,fun w=>?_,rfl⟩;go_simp
        case post =>
         intro v w1 hx (q0:v 0=_) (q1:v 1=_) (q2:v 2=_) (q3:v 3=_) (q4:v 4=_) (q5:v 5=_);simp only [Flow.All,Flow.acts,Act.put];go_simp;have Zq:=Xq.trans hx;have KZ2:=hid (KZ.out.ext Zq);have KB2:=hid (KB.out.ext Zq);have KP2:=hid (Th.out.ext (eb.out.trans Zq));have pn:=hid (Zc.out.ext Zq);have Wz:=hid (Yy.out.trans (eb.out.trans Zq));obtain ⟨wy,rfl⟩:∃ X,X=w1:=⟨_,rfl⟩;clear hx Xq Zq q0 q1 q2 q3 q4;go_wp2;have mn:Hid (gz ≠ gs + 1):=hid Yc.out;have T1:Hid (gb ≠ gs + 1):=hid (by have:=yY.out; omega)
         have Xq:X6o (gs + 1) 38 #[.slice R8 n8 c8] wy wy.drew:=X6o.ext (Ext.refl wy).drew;refine Flow.J0y (X6o (gs + 1) 38 #[.slice R8 n8 c8]) 7 Ext Ext.refl (fun _ _ _=>Ext.trans) (fun _ _=>X6o.ext) (X6o.refl _ _ _) (fun _ _ _=>X6o.trans) (fun _ _ h=>h.size) [.w,.p,.p,.w,.p,.p,.w,.w,.p,.p,.last] [0,1,2,3,4,5,6,7,8,9,10] [[],[],[1],[1,2],[],[4],[4,5],[0],[0,1,2,3,7],[0,1,2,3,4,5,6,7,8],[0,1,2,3,4,5,6,7,8,9]] [10]
          [.c 0 (.agg #[.slice R8 n8 c8]),.c 1 (.pointer (some ⟨gb,1,none⟩)),.c 2 (.pointer (some ⟨gb,1,none⟩)),.c 3 (.int .i64 o2),.c 4 (.pointer (some ⟨gb,1,none⟩)),.c 5 (.pointer (some ⟨gb,2,none⟩)),.c 6 (.int .i64 o3),⟨fun v wz=>(fun v w'=>Blk w' (gs + 1) 38 #[.slice R8 n8 c8]) v wz,by rintro v a b hx h; exact hx.2.2 h⟩,.c 8 (.int .i64 o2),.c 9 (.int .i64 o3),.none]
          [fun v w1 w'=>v 10=.int .i64 0 /\ w1=w'] (by kernel_rfl) rfl (by kernel_rfl) ⟨?g0,?g1,?g2,?g3,?g4,?g5,?g6,?g7,?g8,?g9,?g10,trivial⟩ ?post
         case g0=>
          intro v w1 hx;replace hx:(X6o (gs + 1) 38 #[.slice R8 n8 c8]) _ w1:=hx;intro bb hbb;intro K hK;have o1:bb.eval (.tmp 13)=.pointer (some ⟨gz,0,none⟩):=fze07
          exact Q0k (.tmp 13) _ rfl Q5z Q2w o1 ((Xq.trans hx).blk KZ2.out mn.out) rfl (hK _ _ (Ext.refl w1) rfl)
         case g1 | g4=>
          intro v w1 hx;replace hx:(X6o (gs + 1) 38 #[.slice R8 n8 c8]) _ w1:=hx;intro bb hbb;subst hbb;refine ⟨_,fun w=>?_,rfl⟩;go_simp
         case g2 | g5=>
          intro v w1 hx;(repeat intro (zq:v _=_));replace hx:(X6o (gs + 1) 38 #[.slice R8 n8 c8]) _ w1:=hx;intro bb hbb;subst hbb;refine ⟨_,fun w=>?_,rfl⟩;go_simp
         case g3=>
          intro v w1 hx;(repeat intro (zq:v _=_));replace hx:(X6o (gs + 1) 38 #[.slice R8 n8 c8]) _ w1:=hx;intro bb hbb;subst hbb;have n0:w1.cell? ⟨gb,1,none⟩=some (.int .i64 o2):=((Xq.trans hx).blk KB2.out T1.out).cell 1;intro K hK;go_simp;exact hK _ _ (Ext.refl w1) rfl
         case g6=>
          intro v w1 hx;(repeat intro (zq:v _=_));replace hx:(X6o (gs + 1) 38 #[.slice R8 n8 c8]) _ w1:=hx;intro bb hbb;subst hbb;have n0:w1.cell? ⟨gb,2,none⟩=some (.int .i64 o3):=((Xq.trans hx).blk KB2.out T1.out).cell 2;intro K hK;go_simp;exact hK _ _ (Ext.refl w1) rfl
         case g7=>
          intro v w1 hx;(repeat intro (zq:v _=_));replace hx:Ext _ w1:=hx;intro bb hbb;intro K hK;have o1:bb.eval (.tmp 4)=.pointer (some ⟨gs + 1,0,none⟩):=fze07
          have o2:bb.eval (.tmp 81)=.agg #[.slice R8 n8 c8]:=fzg07
          exact Q1q (.tmp 4) (.tmp 81) _ rfl Q2w o1 o2 (KP2.out.ext ((Ext.refl wy).drew.trans hx)) rfl rfl X0z (fun vv w' hb hl ho=>hK _ _ (show X6o _ _ _ _ _ from ⟨fun n hn _=>hl n hn,fun k _ hk=>ho k hk,fun _=>hb⟩) hb)
         case g8=>
          intro v w1 hx (q0:v 0=_) (q1:v 1=_) (q2:v 2=_) (q3:v 3=_) _;replace hx:(X6o (gs + 1) 38 #[.slice R8 n8 c8]) _ w1:=hx;intro bb hbb;subst hbb;refine ⟨_,fun w=>?_,rfl⟩;go_simp
         case g9=>
          intro v w1 hx (q0:v 0=_) (q1:v 1=_) (q2:v 2=_) (q3:v 3=_) (q4:v 4=_) (q5:v 5=_) (q6:v 6=_) _ (q8:v 8=_);replace hx:(X6o (gs + 1) 38 #[.slice R8 n8 c8]) _ w1:=hx;intro bb hbb;subst hbb;refine ⟨_,fun w=>?_,rfl⟩;go_simp
         case g10=>
          intro v w1 hx (q0:v 0=_) (q1:v 1=_) (q2:v 2=_) (q3:v 3=_) (q4:v 4=_) (q5:v 5=_) (q6:v 6=_) _ (q8:v 8=_) (q9:v 9=_);intro wl hT;obtain rfl:wl=w1:=hT;intro bb hbb;subst hbb;intro K hK;go_simp;exact hK _ _ ⟨rfl,rfl⟩
         case post =>
          intro v w1 hx;(iterate 7 intro (zq:v _=_));intro (q7:(fun v w'=>Blk w' (gs + 1) 38 #[.slice R8 n8 c8]) v w1) (q8:v 8=_) (q9:v 9=_);intro w2 hE;replace hE:(fun v w1 w'=>v 10=.int .i64 0 /\ w1=w') v w1 w2:=hE;simp only [Flow.acts,Act.put];go_simp;obtain ⟨mK,hE⟩:=hE;subst hE
          try rw [mK]
          try clear mK
          replace q7:Blk w1 (gs + 1) 38 #[.slice R8 n8 c8]:=q7;have hrel:=Xq.trans hx;have ln:=hid (X4z pn.out KP2.out hrel.2.1);have uj:Hid (Ext w w1):=hid (Below.trans Wz.out (hrel.1 _ (by have:=rx.out; omega) Wz.out.size))
          clear hx Xq hrel;(repeat clear zq);go_wp2;refine bodyPost_ret (Q9t results21 rfl q7 Q5z Q2w rfl rfl rfl) rfl ?_;exact ⟨⟨_,by rw [HB.out.1]; simp only [nK.out.1,nK.out.2]; rfl,by rw [HB.out.2]; exact ln.out⟩,uj.out⟩
 . have hne:(F != 0)=true:=by simp [hf]
   have kP:=K1.out.ext Pj.out |>.ext (Ext.box w5 (.cells #[.int .i64 E,.int .i64 R] 29))
   have t6:Hid (Y5x s need=(0,0,F) /\ Y8l s need=[]):=hid ⟨by unfold Y5x; rw [qK.out,if_pos hf],by unfold Y8l; rw [qK.out,if_pos hf]⟩
   go_wp2_with (first | (go_at_call 96; refine r6.out.mono ?_; rintro e w7 ⟨rfl,rfl⟩) | (refine Q0t rfl _ _ _ rfl Q2w rfl rfl kP rfl rfl X0z ?_; intro w9 Nj Wj cj))
   refine bodyPost_ret (Q9t results21 rfl Nj Q5z Q2w rfl rfl rfl) rfl ?_;exact ⟨⟨_,by rw [t6.out.1]; rfl,by rw [t6.out.2]; exact Go.Tw.Rows.nil _ _ _⟩,Below.trans (Rq.out.trans (Pj.out.trans (Ext.box w5 (.cells #[.int .i64 E,.int .i64 R] 29)))) (Wj _ (by have:=rx.out; omega))⟩
def Z8m (w:World) (ll:List (List Int)) (cl:Bool) (rs:List (Value × Bool)):Prop:=∀ j (h1:j < rs.length) (h2:j < ll.length),Q0g w rs[j].1 ll[j] /\ rs[j].2=cl
theorem Z8m.snoc {w:World} {ll:List (List Int)} {cl:Bool} {rs:List (Value × Bool)} {k:Nat} (h:Z8m w ll cl rs) (hk:rs.length=k) {v:Value} {q:Bool} (Uq:k < ll.length) (hv:Q0g w v ll[k]) (hq:cl=q):Z8m w ll cl (rs ++ [(v,q)]):=fun j h1 h2=>by
 by_cases hj:j < rs.length
 . rw [List.getElem_append_left hj]; exact h j hj h2
 . rw [List.length_append,List.length_singleton] at h1
   have:j=k:=by omega
   subst this;rw [List.getElem_append_right (by omega)]
   simp only [hk,Nat.sub_self,List.getElem_cons_zero];exact ⟨hv,hq.symm⟩
theorem Q2t {P:Program} {fn:Func} {p q:Tmp} {T:TypeId} (h:fn.results=#[.cell p T,.tmp q]) {tmps:Array Value} {w:World} {g:Nat} (ht:tmps.getD p undef=.pointer (some ⟨g,0,none⟩)) {BT:TypeId} {cs:Array Value} (hb:Blk w g BT cs)
    (hA:∀ w,(isAgg T).run P w=.ok true w) (hS:∀ w,(sizeOf T).run P w=.ok cs.size w) {v:Value} (hq:tmps.getD q undef=v):(results fn tmps).run P w=.ok (.tuple #[.agg cs,v]) w:=by
 unfold results;rw [h];simp only [List.mapM_toArray,List.mapM_cons,List.mapM_nil,Sem.run_bind,Sem.run_pure,ht,hq,asAddr];simp [Q4j hb hA hS]
end Go.Proofs
namespace Go.Tw
open Go.RowKit Go.Flow
def wTo (s:Q0b) (k:Nat):Int:=((List.range k).map fun i=>Q0n s.members i).sum
theorem Z4e (s:Q0b) (k:Nat):wTo s (k + 1)=wTo s k + Q0n s.members k:=by unfold wTo; rw [List.range_succ,List.map_append,List.sum_append]; simp
theorem Z8w (s:Q0b):wTo s s.members.length=Q1t s (allL s):=by unfold wTo Q1t allL; rw [List.map_map]; rfl
theorem Z8k {s:Q0b} (hV:Q0r s):∀ k,k <= s.members.length -> (k:Int) <= wTo s k /\ wTo s k <= 1000 * k
 | 0,_=>by simp [wTo]
 | k + 1,h=>by
   have ih:=Z8k hV k (by omega)
   have:=hV.weights k (by omega)
   rw [Z4e]; omega
def X5l (s:Q0b) (p:List Rul):Ratio:=if Q1k s p=0 then Q7h s p else ⟨0,0⟩
end Go.Tw
namespace Go.Proofs
open Go.RowKit Go.Tw Go.Flow Tryz
attribute [local go_sem] Oper.semAt_some
theorem X7e (w:World) (v u:Value) (s:Q0b) (p:List Rul) (hv:Q0i w v s) (hu:Q0l w u p) (hs:Q2r s) (hp:p.length <= 1000) :
    Calls prog 64 #[v,u] w fun e w'=>e=.returned (.tuple #[.agg #[.int .i64 (X5l s p).num,.int .i64 (X5l s p).den],.int .i64 (Q1k s p)]) /\ Ext w w':=by
 obtain ⟨a,b,rfl,h2⟩:=hv;obtain ⟨rv,rfl,hr⟩:=hu;obtain ⟨A,Tq,rfl,-,-,-⟩:=h2.ships.opened;obtain ⟨M,Vq,rfl,-,-,-⟩:=h2.members.opened;obtain ⟨R,Fq,rfl,-,-,-⟩:=hr.opened;have H2:=hid h2;have HR:=hid hr;have HS:=hid hs;clear h2 hr hs;go_enter func64,ntmps64;go_wp2_with fail;change Calls _ _ _ (((w.alloc (.cells #[.int .i64 s.limit,.slice A s.ships.length Tq,.slice M s.members.length Vq] 34)).alloc (.cells #[.slice R p.length Fq] 38)).alloc (.cells #[.int .i64 0,.int .i64 0] 107)) _;obtain ⟨W,Mq,k0,k1,k2,Rq,eW⟩:=X0c w 34 #[.int .i64 s.limit,.slice A s.ships.length Tq,.slice M s.members.length Vq] 38 #[.slice R p.length Fq] 107 #[.int .i64 0,.int .i64 0];rw [Mq];clear Mq;have K0:=hid k0;have K2:=hid k2;clear k0 k1 k2;refine (X3z _ _ _ s p ⟨_,_,rfl,H2.out.ext Rq.out⟩ ⟨_,rfl,HR.out.ext Rq.out⟩ HS.out hp).mono ?_;rintro e w5 ⟨x5,rfl,qw,yq⟩;have vq:=hid (Rq.out.trans yq);have Fx:=hid (K0.out.ext yq);have S2:=hid (K2.out.ext yq)
 by_cases he:Q1k s p=0
 . obtain ⟨hV,Zz⟩:=Q4z he
   have HV:=hid hV;have h8:=hV.some;have hF:X5l s p=Q7h s p:=if_pos he;have HF:=hid hF;have Yw:=hid he;have hne:(Q1k s p != 0)=false:=by simp [he]
   have Qh:Z1p s p=Q1w s p:=if_pos he;rw [Qh] at qw;have Pf:=kept_len s p;have Fy:0 <= Q1t s (Q1w s p) /\ Q1t s (Q1w s p) <= 8000:=by have h:=Z4j hV (X0x s p); omega
   have FX:=Z8k hV s.members.length (Nat.le_refl _);rw [Z8w] at FX;have Xc:=hid (Y8n w5 _ x5 s (Q1w s p) ⟨_,_,rfl,H2.out.ext vq.out⟩ qw hV (X0x s p) (by omega))
   have m8:Hid (Q7h s p=lowest (Q1t s (Q1w s p)) (Q1t s (allL s))):=hid rfl;have Ph:=hid (Z8w s);obtain ⟨E,hE⟩:∃ E,Q1k s p=E:=⟨_,rfl⟩;have Nz:=hid (hE.symm.trans he);obtain ⟨A5,c5,S4,-,-,-⟩:=qw.opened;subst S4;have c0:=(Fx.out).cell 0;have c1:=(Fx.out).cell 1;have c2:=(Fx.out).cell 2;simp only [Go.Tw.gA,Go.Tw.gB,Go.Tw.gC] at c0 c1 c2;rw [hE] at hne ⊢;rw [Nz.out];obtain ⟨kw,C8⟩:∃ z,Q1t s (Q1w s p)=z:=⟨_,rfl⟩;obtain ⟨aw,kK⟩:∃ z,Q1t s (allL s)=z:=⟨_,rfl⟩;rw [C8] at Xc m8 Fy;rw [kK] at m8 Ph FX;obtain ⟨kl,jK⟩:∃ z,(Q1w s p).length=z:=⟨_,rfl⟩;rw [jK] at Xc ⊢;clear he hE yq hV hF Qh C8 kK Zz qw Pf jK;go_wp2_with (go_at_call 134; refine Xc.out.mono ?_; rintro e w6 ⟨rfl,Mj⟩; refine halted ?_);have bj:=hid Mj;have k6:=Fx.out.ext Mj;replace c0:=Mj.cell c0;replace c1:=Mj.cell c1;replace c2:=Mj.cell c2;clear Mj k6;unfold Q1o;go_wp2
   go_loopw [9,30] (fun o i wr=>∃ (k:Nat),k <= s.members.length /\ i=.int .i64 k /\ o=.int .i64 (wTo s k) /\ Ext w6 wr) (fun _ i _=>s.members.length - (intOf i).toNat)
   case atStart=>exact ⟨0,Nat.zero_le _,rfl,by simp [wTo],Ext.refl _⟩
   case round =>
    clear c0 c1 c2;obtain ⟨k,hk,rfl,rfl,hx⟩:=hrel;have HX:=hid hx
    by_cases Uq:k < s.members.length
    . obtain ⟨bm,off,Sq,Jq,Cq,X,Y,Z,hm⟩:=Q3e (H2.out.ext (vq.out.trans (bj.out.trans hx))).members Uq
      have zj:(k:Int) < s.members.length:=by omega
      obtain rfl:=hm.addr;have e0:=hm.e0;have e1:=hm.e1;have e2:=hm.e2;have e3:=hm.e3;have e4:=hm.e4;have tj:=Z4e s k;have Cz:=Z8k HV.out (k + 1) Uq;obtain ⟨nm,Aj⟩:∃ x,Q1s s.members k=x:=⟨_,rfl⟩;obtain ⟨wt,lq⟩:∃ x,Q0n s.members k=x:=⟨_,rfl⟩;obtain ⟨lc,vj⟩:∃ x,(Q0c s.members k).length=x:=⟨_,rfl⟩;obtain ⟨lo,Sx⟩:∃ x,(Q1c s.members k).length=x:=⟨_,rfl⟩;obtain ⟨li,mj⟩:∃ x,(Q1f s.members k).length=x:=⟨_,rfl⟩;rw [Aj] at e0;rw [lq] at e1 tj;rw [vj] at e2;rw [Sx] at e3;rw [mj] at e4;have Sj:=hid tj;rw [tj] at Cz;obtain ⟨sm,hsm⟩:∃ x,wTo s k=x:=⟨_,rfl⟩;rw [hsm] at Cz Sj ⊢;have o8:IntKind.i64.wrap (sm + wt)=sm + wt:=Q2j _ (by omega) (by omega)
      have Bq:=Ext.box wr (.cells #[.string nm,.int .i64 wt,.slice X lc Sq,.slice Y lo Jq,.slice Z li Cq] 69);have K3:=Blk.made wr 69 #[.string nm,.int .i64 wt,.slice X lc Sq,.slice Y lo Jq,.slice Z li Cq];have d0:=(K3).cell 0;have d1:=(K3).cell 1;have d2:=(K3).cell 2;have d3:=(K3).cell 3;have d4:=(K3).cell 4;simp only [Go.Tw.gA,Go.Tw.gB,Go.Tw.gC] at d0 d1 d2 d3 d4;have uj:=hid (hx.trans Bq);clear hm tj Aj lq vj Sx mj hsm Bq K3 hx
      go_light
      go_wp2;go_roundw
      case rel=>exact ⟨k + 1,by omega,by go_num,by rw [Sj.out],uj.out⟩
      case measure=>simp [intOf]; omega
    . have lj:k=s.members.length:=by omega
      subst lj;rw [Ph.out];clear hx;go_wp2;have Z0:1 <= aw /\ aw <= 8000:=by omega
      obtain ⟨w7,rfl⟩:∃ X,X=wr:=⟨_,rfl⟩;have jn:=hid (vq.out.trans (bj.out.trans HX.out));have R3:=hid (S2.out.ext (bj.out.trans HX.out));clear FX
      go_loopw [12,13] (fun x y wr=>∃ (p q:Int),x=.int .i64 p /\ y=.int .i64 q /\ 0 <= p /\ 0 <= q /\ p <= 8000 /\ q <= 8000 /\ (0 < p ∨ 0 < q) /\ Int.gcd p q=Int.gcd kw aw /\ Ext w7 wr) (fun _ y _=>(intOf y).toNat)
      case atStart=>exact ⟨kw,aw,rfl,rfl,Fy.1,by omega,Fy.2,Z0.2,by omega,rfl,Ext.refl _⟩
      case round =>
       obtain ⟨p',q',rfl,rfl,uY,G2,R6,Ng,Ll,hg,Ej⟩:=hrel
       by_cases hz:q'=0
       . subst hz
         have YZ:p'=(Int.gcd kw aw:Int):=by rw [<- hg,Int.gcd_zero]; omega
         have Kl:¬ p'=0:=by omega
         have BG:=hid YZ;clear hg YZ;have J2:kw / p' <= kw:=Int.ediv_le_self _ Fy.1;have dn:aw / p' <= aw:=Int.ediv_le_self _ (by omega)
         have Q6:0 <= kw / p':=Int.ediv_nonneg Fy.1 uY;have Jl:0 <= aw / p':=Int.ediv_nonneg (by omega) uY
         have Gl:kw.tdiv p'=kw / p':=Int.tdiv_eq_ediv_of_nonneg Fy.1;have Fl:aw.tdiv p'=aw / p':=Int.tdiv_eq_ediv_of_nonneg (by omega)
         have Cl:IntKind.i64.wrap (kw / p')=kw / p':=Q2j _ (by omega) (by omega)
         have Bl:IntKind.i64.wrap (aw / p')=aw / p':=Q2j _ (by omega) (by omega)
         have Jg:=hid Ej;have Xq:=(Ext.refl wr).drew;go_wp2;refine Flow.Q3q [.p,.p,.p,.p,.p,.p,.p,.last,.last] [0,1,2,3,4,5,6,7,8] [[],[],[0,1],[],[],[3,4],[0,1,2,3,4,5],[0,1,2,3,4,5,6],[0,1,2,3,4,5,6,7]] [7,8]
          [.c 0 (.int .i64 kw),.c 1 (.int .i64 p'),.c 2 (.int .i64 (kw / p')),.c 3 (.int .i64 aw),.c 4 (.int .i64 p'),.c 5 (.int .i64 (aw / p')),.c 6 (.agg #[.int .i64 (kw / p'),.int .i64 (aw / p')]),.none,.none]
          [fun v w1 w'=>Blk w' (w.heap.size + 1 + 1) 107 #[.int .i64 (kw / p'),.int .i64 (aw / p')] /\ (∀ n,n <= w.heap.size + 1 + 1 -> Below n w1 w'),fun v w1 w'=>v 8=.int .i64 0 /\ Blk w' (w.heap.size + 1 + 1) 107 #[.int .i64 (kw / p'),.int .i64 (aw / p')] /\ (∀ n,n <= w.heap.size + 1 + 1 -> Below n w1 w')] (by kernel_rfl) rfl (by kernel_rfl) ⟨?g0,?g1,?g2,?g3,?g4,?g5,?g6,?g7,?g8,trivial⟩ ?post
         case g0 | g1 | g3 | g4=>
          intro v w1 hx;intro bb hbb;subst hbb;refine ⟨_,fun w=>?_,rfl⟩;go_simp
         case g2 | g5 | g6=>
          intro v w1 hx;(repeat intro (zq:v _=_));intro bb hbb;subst hbb;refine ⟨_,fun w=>?_,rfl⟩;go_simp
         case g7=>
          intro v w1 hx;(repeat intro (zq:v _=_));intro wl hT;obtain rfl:wl=w1:=hT;intro bb hbb;intro K hK;have o1:bb.eval (.tmp 4)=.pointer (some ⟨w.heap.size + 1 + 1,0,none⟩):=fze07
          have o2:bb.eval (.tmp 53)=.agg #[.int .i64 (kw / p'),.int .i64 (aw / p')]:=fzg07
          exact Q1q (.tmp 4) (.tmp 53) _ rfl X5m o1 o2 (R3.out.ext (Jg.out.trans (Xq.trans hx))) rfl rfl Y0w (fun vv w' hb hl ho=>hK _ _ ⟨hb,hl⟩)
         case g8=>
          intro v w1 hx;(repeat intro (zq:v _=_));intro wl hT;replace hT:(fun v w1 w'=>Blk w' (w.heap.size + 1 + 1) 107 #[.int .i64 (kw / p'),.int .i64 (aw / p')] /\ (∀ n,n <= w.heap.size + 1 + 1 -> Below n w1 w')) v w1 wl:=hT;intro bb hbb;subst hbb;intro K hK;go_simp;exact hK _ _ ⟨rfl,hT⟩
         case post =>
          intro v w1 hx;(iterate 7 intro (zq:v _=_));intro w2 hE;replace hE:(fun v w1 w'=>v 8=.int .i64 0 /\ Blk w' (w.heap.size + 1 + 1) 107 #[.int .i64 (kw / p'),.int .i64 (aw / p')] /\ (∀ n,n <= w.heap.size + 1 + 1 -> Below n w1 w')) v w1 w2:=hE;simp only [Flow.acts,Act.put];go_simp;obtain ⟨Zo,Nj,Wj⟩:=hE;have uj:Hid (Ext w w2):=hid (Below.trans (jn.out.trans (Jg.out.trans (Xq.trans hx))) (Wj _ (by omega)))
          try rw [Zo]
          clear hx Xq Wj;(repeat clear zq);go_wp2;refine bodyPost_ret (Q2t results64 rfl Nj J1o X5m rfl) rfl ?_;exact ⟨by rw [Yw.out,HF.out,m8.out,BG.out]; rfl,uj.out⟩
       . have ny:0 < q':=by omega
         have tj:=Z3a p' q' uY ny;have Tv:p' % q' < q':=Int.emod_lt_of_pos p' ny;have AG:=Int.emod_nonneg p' (show q' ≠ 0 by omega)
         rw [Int.tmod_eq_emod_of_nonneg uY] at tj;go_wp2
         go_quiet (fail)
         all_goals go_wp2
         go_roundw
         case rel=>exact ⟨q',p' % q',rfl,by go_num,by omega,AG,Ng,by omega,Or.inl ny,by rw [tj,hg],Ej.drewN _⟩
         case measure=>exact (Int.toNat_lt_toNat ny).2 Tv
 . have HF:Hid (X5l s p=⟨0,0⟩):=hid (if_neg he)
   have hne:(Q1k s p != 0)=true:=by simp [he]
   obtain ⟨E,hE⟩:∃ E,Q1k s p=E:=⟨_,rfl⟩;have Vx:=hid hE;have R6:=S2.out;obtain ⟨A5,c5,S4,-,-,-⟩:=qw.opened;subst S4;rw [hE] at hne ⊢;clear he hE yq qw;go_wp2_with (with_reducible (refine Q5j ?_); refine Q0t rfl _ _ _ rfl X5m rfl rfl R6 rfl rfl Y0w ?_; intro w9 Nj Wj cj);refine bodyPost_ret (Q2t results64 rfl Nj J1o X5m rfl) rfl ?_;exact ⟨by rw [Vx.out,HF.out]; rfl,Below.trans vq.out (Wj _ (by omega))⟩
end Go.Proofs
