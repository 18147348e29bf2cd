/- Small aids for the uses of the region theorem and for boxes. Contracts of small functions of the references. What the functions of chapter 5 come to, in plain lists and numbers: no program is in sight here. Contracts of the reference: before, count, dry. Plain law: the greatest weight and the best cost over the plans are those over all policies by their codes. Plain law: what PolicyBest says of the greatest weight, the best cost and the groups. Plain law: prefixes of closings; Q7o members; the first closings of a member alone. Contract of the reference: Play. Contract of the reference: coded. A list of lists that a call makes and appends to. The region theorem with new boxes that are two and two apart, the frame under a name. An argument of type uint8. Lists of lists whose parts are the call's own. -/
import Derived.Test.YthnobngcipaljaaGreatDoorPp35
set_option maxRecDepth 1000000
set_option maxHeartbeats 64000000
set_option linter.unusedVariables false
set_option linter.unusedSimpArgs false
set_option linter.constructorNameAsVariable false
open Go.Lib (hid)
namespace Go.Tw
open Go.RowKit Go.Flow
theorem J2n {α:Type} {P:Program} {K:Value -> World -> Prop} {o:Oper} {a:Act} {w:World} (s x:Operand) (t:TypeId) (ho:o.op=.call { callee:=.builtin .append,args:=#[s,x],argTypes:=#[t,t] })
    (base:Nat) (e:TypeId) (i:TypeInfo) (z:Value) (bytes:Nat) (ht:P.underlying t=some (.slice e)) (hi:P.info? e=some i) (hz:i.zero=some z) (hsize:i.size=1) (hby:i.bytes=bytes) (hzs:z.cells.size=1)
    (enc:α -> Value) (v src:Value) (ys:List α) (hs:a.eval s=v) (hv:∃ g,v=.slice (some ⟨g,0,none⟩) 0 0 /\ base <= g /\ w.heap[g]?=some (.cells #[] e (0,0))) (hx:a.eval x=src) (hsrc:Src w enc src ys) (h1:∀ y ∈ ys,(enc y).oneCell'=true)
    (h63:ys.length <= 4398046511104) (hb:bytes <= 32) (hbase:base <= w.heap.size)
    (h:∀ v' w',Q0q w' base e enc v' ys -> Ext w w' -> K v' w'):gives P K ((execOp a.eval o).run P w):=by
 obtain ⟨g,rfl,hbg,hg⟩:=hv;have hown:Q0q w base e enc (.slice (some ⟨g,0,none⟩) 0 0) ([]:List α):=⟨by simp,.inr ⟨g,0,#[],rfl,hbg,hg,Nat.le_refl _,Nat.zero_le _,rfl,by simp⟩⟩
 obtain ⟨A,c,rfl,hc⟩:=hsrc;cases ys with
 | nil =>
   unfold execOp;simp only [ho,resolve,invoke,builtin,Sem.run_bind,Sem.run_pure,Result.andThen_ok,List.map_toArray,List.map_cons,List.map_nil,hs,hx];rw [List.length_nil,Q7q (P:=P) w t o.type e i ht hi _ A 0 0 c (Nat.le_refl _)];exact h _ _ hown (Ext.refl _)
 | cons y ys =>
   obtain ⟨b0,off0,rfl,_⟩:=hc 0 (by simp)
   have hnews:∀ j u,((y :: ys).map enc)[j]?=some u -> w.cell? ((⟨b0,off0,none⟩:Addr).add j)=some u:=fun j u hu=>by
    rw [List.getElem?_map] at hu
    rcases Nat.lt_or_ge j (y :: ys).length with hj | hj
    . rw [List.getElem?_eq_getElem hj] at hu
      simp only [Option.map_some,Option.some.injEq] at hu;obtain ⟨b',off',hA,hcell⟩:=hc j hj;cases hA;rw [<- hu,addr_add]; exact hcell
    . rw [List.getElem?_eq_none hj] at hu; cases hu
   have hbytes:(y :: ys).length * bytes <= 140737488355328:=by
    have:(y :: ys).length * bytes <= 4398046511104 * 32:=Nat.mul_le_mul h63 hb;omega
   obtain ⟨v',w',hr,h2,h3,h4⟩:=run_append_own (P:=P) w base t o.type e i z 1 bytes ht hi hz hsize hby hzs (by decide) _ 0 (([]:List α).map enc) hown ⟨b0,off0,none⟩ (y :: ys).length c ((y :: ys).map enc) (by simp) hnews (fun u hu=>by obtain ⟨y,hy,rfl⟩:=List.mem_map.1 hu; exact h1 y hy) (by unfold maxLen; omega) (by rw [Nat.zero_add]; exact hbytes) hbase
   have hgr:=run_append_grow (P:=P) w t o.type e i z ht hi hz ⟨g,0,none⟩ 0 0 [] (by simp) (by simp) ⟨b0,off0,none⟩ (y :: ys).length c ((y :: ys).map enc) (by rw [hsize]; simp) hnews (by simp) (by simp only [List.length_cons] at h63 ⊢; omega) (by rw [hby]; exact growslice_fits (by simp) (by rw [Nat.zero_add]; exact hbytes))
   rw [hr] at hgr;injection hgr with hv' hw';unfold execOp;simp only [ho,resolve,invoke,builtin,Sem.run_bind,Sem.run_pure,Result.andThen_ok,List.map_toArray,List.map_cons,List.map_nil,hs,hx,hr];refine h v' w' ?_ (by rw [hw']; exact ((Ext.refl w).drew).alloc _)
   unfold Q0q
   simpa using h2
end Go.Tw
namespace Go.Proofs
open Go.RowKit Go.Tw
theorem J7h (w:World) (v:Value) (l:List Int) (x:Int) (hv:Q0d w v l) :
    Calls Tryz.prog 40 #[v,.int .i64 x] w fun e w'=>e=.returned (.bool (has l x)) /\ w=w':=by
 obtain ⟨A,cap,rfl,hl,hcap,hc⟩:=hv.opened;clear hv;go_enter Tryz.func40,Tryz.ntmps40;go_wp2
 go_loop [5] (fun i=>∃ k:Nat,k <= l.length /\ i=.int .i64 k /\ has (l.drop k) x=has l x) (fun i=>l.length - (intOf i).toNat)
 case atStart=>exact ⟨0,Nat.zero_le _,rfl,rfl⟩
 case round =>
  obtain ⟨k,hk,rfl,hr⟩:=hrel;have HR:=hid hr; clear hr
  by_cases hlt:k < l.length
  . obtain ⟨b,off,rfl,hcell⟩:=hc k hlt
    clear hc
    by_cases hx:ix l k=x
    . have HX:=hid hx
      have hx1:(ix l k == x)=true:=by simp [hx]
      clear hx;go_wp2;go_ret;exact ⟨Q0u (by rw [<- HR.out,Q3b hlt,Y7j,HX.out]; simp),rfl⟩
    . have hx1:(ix l k == x)=false:=by simp [hx]
      have HX:=hid hx; clear hx;go_wp2;go_round
      case rel=>exact ⟨k + 1,by omega,by go_num,by rw [<- HR.out,Q3b hlt,Y7j,beq_false_of_ne HX.out,Bool.false_or]⟩
      case measure=>simp [intOf]; omega
  . clear hc
    go_wp2;go_ret;exact ⟨Q0u (by rw [<- HR.out,List.drop_eq_nil_of_le (by omega)]; rfl),rfl⟩
end Go.Proofs
namespace Go.Tw
namespace Q0b
end Q0b
namespace Q0b
end Q0b
def always (s:Q0b) (c:Bool):List Rul:=s.hist.map fun h=>⟨h,c⟩
namespace Mem
end Mem
namespace Mem
end Mem
end Go.Tw
namespace Go.Proofs
open Go.RowKit Go.Tw Go.Flow
theorem J8b {a b:List Int} {k:Nat} (ha:k < a.length) (hb:k < b.length):Q5y (a.drop k) (b.drop k)=if ix a k=ix b k then Q5y (a.drop (k + 1)) (b.drop (k + 1)) else decide (ix a k < ix b k):=by
 rw [Q3b ha,Q3b hb]; rfl
theorem J3p (w:World) (u v:Value) (l m:List Int) (hu:Q0d w u l) (hv:Q0d w v m) (hlen:l.length=m.length) :
    Calls Tryz.prog 117 #[u,v] w fun e w'=>e=.returned (.bool (Q5y l m)) /\ Ext w w':=by
 obtain ⟨A,cap,rfl,hl,hcap,hc⟩:=hu.opened;obtain ⟨A',cap',rfl,hl',hcap',hc'⟩:=hv.opened;clear hu hv;have i0:l.length <= m.length:=by omega
 have HLEN:=hid hlen; clear hlen;go_enter Tryz.func117,Tryz.ntmps117;go_wp2
 go_loopw [5] (fun i wr=>∃ k:Nat,k <= l.length /\ i=.int .i64 k /\ Q5y (l.drop k) (m.drop k)=Q5y l m /\ Ext w wr) (fun i _=>l.length - (intOf i).toNat)
 case atStart=>exact ⟨0,Nat.zero_le _,rfl,rfl,Ext.refl _⟩
 case round =>
  obtain ⟨k,hk,rfl,hr,hx⟩:=hrel;have HR:=hid hr; clear hr
  by_cases hlt:k < l.length
  . obtain ⟨b,off,rfl,hcell⟩:=hc k hlt
    obtain ⟨b',off',rfl,hcell'⟩:=hc' k (by omega)
    replace hcell:=hx.cell hcell;replace hcell':=hx.cell hcell';clear hc hc';have i1:(k:Int) < l.length:=by omega
    have i2:(k:Int) < m.length:=by omega
    have hst:=J8b hlt (show k < m.length by omega)
    have HST:=hid hst; clear hst
    by_cases hx0:ix l k=ix m k
    . have hx1:(ix l k != ix m k)=false:=by simp [hx0]
      have HX:=hid hx0; clear hx0;go_wp2
      go_quiet (fail)
      all_goals go_wp2
      go_roundw
      case rel=>exact ⟨k + 1,by omega,by go_num,by rw [<- HR.out,HST.out,if_pos HX.out],hx.drewN _⟩
      case measure=>simp [intOf]; omega
    . have hx1:(ix l k != ix m k)=true:=by simp [hx0]
      have HX:=hid hx0; clear hx0;go_wp2
      go_quiet (fail)
      all_goals go_wp2
      go_quiet (fail)
      all_goals go_wp2
      go_ret;exact ⟨Q0u (by rw [<- HR.out,HST.out,if_neg HX.out]),(hx.drewN _).drewN _⟩
  . clear hc hc'
    go_wp2;go_ret;exact ⟨Q0u (by rw [<- HR.out,List.drop_eq_nil_of_le (by omega)]; rfl),hx⟩
end Go.Proofs
namespace Go.Tw
variable {s:Q0b}
def J2l (s:Q0b) (n:Nat):List Rul:=(List.range s.hist.length).map fun i=>⟨s.hist.getD i [],n.testBit i⟩
theorem J4e:∀ (m:Nat) (g:Nat -> Bool),∃ n,n < 2 ^ m /\ ∀ i,i < m -> n.testBit i=g i
 | 0,_=>⟨0,by decide,fun i h=>absurd h (Nat.not_lt_zero _)⟩
 | m + 1,g=>by
   obtain ⟨n,hn,h⟩:=J4e m g;cases hg:g m
   . refine ⟨n,by rw [Nat.pow_succ]; omega,fun i hi=>?_⟩
     by_cases e:i=m
     . subst e; rw [hg,Nat.testBit_lt_two_pow hn]
     . exact h i (by omega)
   . refine ⟨2 ^ m + n,by rw [Nat.pow_succ]; omega,fun i hi=>?_⟩
     by_cases e:i=m
     . subst e; rw [hg,Nat.testBit_two_pow_add_eq,Nat.testBit_lt_two_pow hn]; rfl
     . rw [Nat.testBit_two_pow_add_gt (by omega)]; exact h i (by omega)
theorem J5s {α:Type} (g:α -> Int):∀ (l:List α) (a:Int),a <= l.foldl (fun m x=>max m (g x)) a /\ (∀ x ∈ l,g x <= l.foldl (fun m x=>max m (g x)) a) /\
    (l.foldl (fun m x=>max m (g x)) a=a ∨ ∃ x ∈ l,l.foldl (fun m x=>max m (g x)) a=g x)
 | [],a=>⟨Int.le_refl _,fun _ h=>absurd h (by simp),.inl rfl⟩
 | y :: l,a=>by
   obtain ⟨h1,h2,h3⟩:=J5s g l (max a (g y));rw [List.foldl_cons];refine ⟨by omega,fun x hx=>?_,?_⟩
   . rcases List.mem_cons.1 hx with e | e
     . subst e; omega
     . exact h2 x e
   . rcases h3 with h3 | ⟨x,hx,h3⟩
     . by_cases e:a <= g y
       . exact .inr ⟨y,List.mem_cons_self,by omega⟩
       . exact .inl (by omega)
     . exact .inr ⟨x,List.mem_cons_of_mem _ hx,h3⟩
end Go.Tw
namespace Go.Tw
variable {s:Q0b}
theorem J8c {α:Type} {g h:α -> Int}:∀ {l:List α},(∀ x ∈ l,g x <= h x) -> (l.map g).sum <= (l.map h).sum
 | [],_=>Int.le_refl _
 | x :: l,hh=>by
   have h1:=hh x List.mem_cons_self;have h2:=J8c (l:=l) fun y hy=>hh y (List.mem_cons_of_mem _ hy);rw [List.map_cons,List.sum_cons,List.map_cons,List.sum_cons]; omega
theorem J5n {α:Type} {g:α -> Int} {l:List α} (h:∀ x ∈ l,0 <= g x):0 <= (l.map g).sum:=by
 have:=J8c (g:=fun _=>0) h
 rwa [X0p] at this
theorem J8p {α:Type} {g:α -> Int}:∀ {l:List α} {a:α},a ∈ l -> (∀ x ∈ l,0 <= g x) -> g a <= (l.map g).sum
 | [],_,h,_=>absurd h (by simp)
 | x :: l,a,h,h0=>by
   rw [List.map_cons,List.sum_cons];have h1:=J5n (g:=g) (l:=l) fun y hy=>h0 y (List.mem_cons_of_mem _ hy)
   rcases List.mem_cons.1 h with e | e
   . subst e; omega
   . have:=J8p e fun y hy=>h0 y (List.mem_cons_of_mem _ hy)
     have:=h0 x List.mem_cons_self; omega
theorem J5q (hv:Q1b s) (p:List Rul):0 <= Q2c s (Q3r s p):=by
 refine J5n fun i hi=>?_;obtain ⟨k,hk,rfl⟩:=List.mem_map.1 hi;have:=(hv.weights k (List.mem_range.1 (List.mem_filter.1 hk).1)).1;show 0 <= Q0i s.members k;omega
theorem J8d (hf:Fine s) (p:List Rul):∃ x ∈ Q2j s,Q2c s (Q3r s p) <= x.weight /\ x.closings <= Q4z s p /\ x.delay <= X2t s p:=by
 rw [<- Z5v hf,<- Y3m hf,<- Z3k hf];exact Y5s hf _
theorem J7v (x:Plan) (hx:x ∈ Q2j s):x.weight <= Z5c s:=(J5s Plan.weight (Q2j s) 0).2.1 x hx
theorem J7q (hv:Q1b s):∃ x ∈ Q2j s,x.weight=Z5c s:=by
 rcases (J5s Plan.weight (Q2j s) 0).2.2 with h | ⟨x,hx,h⟩
 . obtain ⟨x,hx,e,-,-⟩:=J8d hv.toFine []
   have h1:=J5q hv [];have h2:=J7v x hx;have h3:Z5c s=0:=h;exact ⟨x,hx,by omega⟩
 . exact ⟨x,hx,h.symm⟩
theorem J4o:∀ l:List Bool,∃ n,n < 2 ^ l.length /\ Q5u n l.length=l:=by
 intro l;obtain ⟨n,hn,h⟩:=J4e l.length fun i=>l.getD (l.length - 1 - i) false
 refine ⟨n,hn,?_⟩;unfold Q5u
 apply List.ext_getElem (by simp)
 intro i h1 h2;simp only [List.getElem_map,List.getElem_range];rw [h _ (by omega),Q0v _ (by omega)]
 congr 1
 omega
end Go.Tw
namespace Go.Tw
variable {s:Q0b}
theorem J3b (m:Mem):∀ (c:List Bool) (u t:Nat) (lv:Int),(m.Q3e t lv c).take u=m.Q3e t lv (c.take u)
 | [],u,t,lv=>by simp [Mem.Q3e]
 | x :: c,0,t,lv=>by simp [Mem.Q3e]
 | x :: c,u + 1,t,lv=>by
   rw [List.take_succ_cons,Mem.Q3e,Mem.Q3e,List.take_succ_cons,J3b m c u]
theorem J7k (m:Mem) (c:List Bool) (u:Nat):(m.X3n c).take u=m.X3n (c.take u):=J3b m c u 0 0
theorem J6h (m:Mem) (lim:Int) (c:List Bool):m.keeps lim c=true ↔ ∀ x ∈ m.X3n c,x <= lim:=by
 unfold Mem.keeps;rw [Bool.not_eq_true',List.any_eq_false]
 constructor
 . intro h x hx; have:=h x hx; simp only [decide_eq_true_eq] at this; omega
 . intro h x hx; have:=h x hx; simp only [decide_eq_true_eq]; omega
theorem J7o {m:Mem} {lim:Int} {c:List Bool} (h:m.keeps lim c=true) (u:Nat):m.keeps lim (c.take u)=true:=by
 rw [J6h] at h ⊢;intro x hx;rw [<- J7k] at hx;exact h x (List.mem_of_mem_take hx)
theorem J5m {m:Mem} {a b:Int} (hab:a <= b) {c:List Bool} (h:m.keeps a c=true):m.keeps b c=true:=by
 rw [J6h] at h ⊢;exact fun x hx=>Int.le_trans (h x hx) hab
theorem J5y (m:Mem) (lim:Int) (t:Nat):m.X2v lim t=true ↔ ∃ c:List Bool,c.length=t /\ m.keeps lim c=true:=by
 unfold Mem.X2v;rw [List.any_eq_true]
 constructor
 . rintro ⟨n,-,h⟩; exact ⟨Q5u n t,X3w n t,h⟩
 . rintro ⟨c,rfl,h⟩
   obtain ⟨n,hn,e⟩:=J4o c;exact ⟨n,List.mem_range.2 hn,by rw [e]; exact h⟩
theorem J7r {i t:Nat} (h:Q7o s i=some t):t < s.ships.length /\ ∀ c:List Bool,t < c.length -> (Q2e s i).keeps s.limit (c.take (t + 1))=false:=by
 unfold Q7o at h;have h1:=List.find?_some h;have h2:=List.mem_of_find?_eq_some h;refine ⟨List.mem_range.1 h2,fun c hc=>?_⟩;rw [<- Bool.not_eq_true];intro hk;have:(Q2e s i).X2v s.limit (t + 1)=true:=(J5y _ _ _).2 ⟨_,by rw [List.length_take]; omega,hk⟩
 rw [this] at h1;exact absurd h1 (by simp)
theorem J2u {i:Nat} (h:Q7o s i=none) (h0:0 < s.ships.length):∃ c:List Bool,c.length=s.ships.length /\ (Q2e s i).keeps s.limit c=true:=by
 unfold Q7o at h;rw [List.find?_eq_none] at h;have:=h (s.ships.length - 1) (List.mem_range.2 (by omega))
 rw [show s.ships.length - 1 + 1=s.ships.length by omega] at this
 exact (J5y _ _ _).1 (by simpa using this)
theorem J5k {i:Nat} (h0:0 < s.ships.length):Q7o s i=none ↔ ∃ c:List Bool,c.length=s.ships.length /\ (Q2e s i).keeps s.limit c=true:=by
 refine ⟨fun h=>J2u h h0,fun ⟨c,hc,hk⟩=>?_⟩;cases hd:Q7o s i with
 | none=>rfl
 | some t =>
   obtain ⟨h1,h2⟩:=J7r hd;have:=h2 c (by omega)
   rw [J7o hk] at this;cases this
theorem J5p (m:Mem) (lim:Int) (t:Nat):∀ n,(∀ b,m.Q3n lim t n=some b -> m.keeps lim b=true /\ (∃ k,k < n /\ b=Q5u k t /\ ∀ j,j < n -> m.keeps lim (Q5u j t)=true -> countB b <= countB (Q5u j t) /\ (countB b=countB (Q5u j t) -> k <= j))) /\
    (m.Q3n lim t n=none -> ∀ j,j < n -> m.keeps lim (Q5u j t)=false)
 | 0=>⟨fun b h=>(by cases h),fun _ j h=>absurd h (Nat.not_lt_zero _)⟩
 | n + 1=>by
   obtain ⟨h1,h2⟩:=J5p m lim t n;rw [Mem.Q3n]
   by_cases hc:m.keeps lim (Q5u n t)=true /\ (∀ b,m.Q3n lim t n=some b -> countB (Q5u n t) < countB b)
   . rw [if_pos hc]
     refine ⟨fun b hb=>?_,fun h=>by cases h⟩
     cases hb;refine ⟨hc.1,n,Nat.lt_succ_self _,rfl,fun j hj hk=>?_⟩
     by_cases e:j=n
     . subst e; exact ⟨Int.le_refl _,fun _=>Nat.le_refl _⟩
     . cases ha:m.Q3n lim t n with
       | none=>rw [h2 ha j (by omega)] at hk; cases hk
       | some b =>
         have h3:=hc.2 b ha;obtain ⟨-,k,-,-,h4⟩:=h1 b ha;have h5:=(h4 j (by omega) hk).1
         exact ⟨by omega,fun e'=>by omega⟩
   . rw [if_neg hc]
     refine ⟨fun b hb=>?_,fun hn j hj=>?_⟩
     . obtain ⟨k1,k,k2,k3,k4⟩:=h1 b hb
       refine ⟨k1,k,by omega,k3,fun j hj hk=>?_⟩
       by_cases e:j=n
       . subst e
         have:¬ countB (Q5u j t) < countB b:=fun hlt=>hc ⟨hk,fun b' hb'=>by rw [hb] at hb'; cases hb'; exact hlt⟩
         exact ⟨by omega,fun _=>by omega⟩
       . exact k4 j (by omega) hk
     . by_cases e:j=n
       . subst e
         rw [<- Bool.not_eq_true];intro hk;exact hc ⟨hk,fun b' hb'=>by rw [hn] at hb'; cases hb'⟩
       . exact h2 hn j (by omega)
theorem J3o {i:Nat} {b:List Bool} (h:alone s i=some b):b.length=s.ships.length /\ (Q2e s i).keeps s.limit b=true /\
    ∀ c:List Bool,c.length=s.ships.length -> (Q2e s i).keeps s.limit c=true -> countB b <= countB c:=by
 obtain ⟨h1,k,hk,e,h2⟩:=(J5p _ _ _ _).1 b h;refine ⟨by rw [e,X3w],h1,fun c hc hkc=>?_⟩
 obtain ⟨n,hn,e'⟩:=J4o c;rw [hc] at hn e';rw [<- e']; exact (h2 n hn (by rw [e']; exact hkc)).1
theorem J3k {i:Nat} (h:alone s i=none) (c:List Bool) (hc:c.length=s.ships.length):(Q2e s i).keeps s.limit c=false:=by
 obtain ⟨n,hn,e'⟩:=J4o c;rw [hc] at hn e';rw [<- e']; exact (J5p _ _ _ _).2 h n hn
end Go.Tw
namespace Go.Proofs
open Go.RowKit Go.Tw Go.Flow
theorem Tryz.J8o (w:World):(isAgg 25).run Tryz.prog w=.ok true w:=by kernel_rfl
theorem Tryz.J7y (w:World):(sizeOf 25).run Tryz.prog w=.ok 3 w:=by kernel_rfl
attribute [local go_sem ↓] X3l
end Go.Proofs
namespace Go.Proofs
open Go.RowKit Go.Tw Go.Flow
theorem J7c (n k:Nat):(((n / 2 ^ k:Nat):Int).tmod 2 == 1)=n.testBit k:=by
 rw [Nat.testBit_eq_decide_div_mod_eq,show ((n / 2 ^ k:Nat):Int).tmod 2=((n / 2 ^ k % 2:Nat):Int) from (Int.ofNat_tmod _ 2).symm]
 by_cases h:n / 2 ^ k % 2=1
 . rw [h]; rfl
 . rw [decide_eq_false h,beq_eq_false_iff_ne]; omega
theorem J7z (n k:Nat):((n / 2 ^ k:Nat):Int).tdiv 2=((n / 2 ^ (k + 1):Nat):Int):=by
 rw [show ((n / 2 ^ k:Nat):Int).tdiv 2=((n / 2 ^ k / 2:Nat):Int) from (Int.ofNat_tdiv _ 2).symm,Nat.div_div_eq_div_mul,<- Nat.pow_succ]
end Go.Proofs
namespace Go.Tw
open Go.RowKit Go.Flow
theorem J3x {α:Type} (x d:α):∀ (n:Nat) (xs:List α) (i:Nat),n <= xs.length -> (xs.take n ++ [x] ++ xs.drop n).getD i d=if i < n then xs.getD i d else if i=n then x else xs.getD (i - 1) d
 | 0,xs,i,_=>by cases i <;> simp
 | n + 1,[],i,h=>by simp at h
 | n + 1,y :: ys,0,_=>by simp
 | n + 1,y :: ys,i + 1,h=>by
   have:=J3x x d n ys i (by simpa using h)
   simp only [List.take_succ_cons,List.drop_succ_cons,List.cons_append,List.getD_cons_succ,this]
   by_cases h1:i < n
   . have h1':i + 1 < n + 1:=by omega
     simp only [h1,h1',if_true]
   . have h1':¬ (i + 1 < n + 1):=by omega
     by_cases h2:i=n
     . subst h2
       simp
     . have h2':¬ (i + 1=n + 1):=by omega
       obtain ⟨m,rfl⟩:∃ m,i=m + 1:=⟨i - 1,by omega⟩
       simp only [h1,h1',h2,h2',if_false];simp
theorem Reads.insert {w:World} {vs:List Value} {ll:List (List Int)} {v:Value} {l:List Int} {n:Nat} (h:Reads w vs ll) (hv:Q0d w v l) (hn:n <= ll.length):Reads w (vs.take n ++ [v] ++ vs.drop n) (ll.take n ++ [l] ++ ll.drop n):=by
 have hl:=h.1;refine ⟨by simp [hl],fun i hi=>?_⟩
 rw [J3x _ _ _ _ _ (by omega),J3x _ _ _ _ _ hn]
 simp only [List.length_append,List.length_take,List.length_drop,List.length_singleton] at hi
 split
 . exact h.2 i (by omega)
 . split
   . exact hv
   . exact h.2 (i - 1) (by omega)
theorem J5a {w w1 w2:World} (hx:Ext w.drew w1) (hb:Below w.heap.size w1 w2):Ext w w2:=Below.trans (((Ext.refl w).drew).trans hx) hb
end Go.Tw
namespace Go.Flow
open Go.RowKit Go.Tw
theorem J7l {P:Program} {T:TypeId} {c:Obj} (h:∀ w,(Instr.alloc T true (.tuple #[])).run P w=.ok (.pointer (some ⟨w.heap.size,0,none⟩)) (w.alloc c)) {o:Oper} (ho:o.op=.alloc T) (hg:o.guard=none):Made P o :=
 ⟨hg,fun e w=>⟨c,by unfold execOp; simp only [ho,Sem.run_bind,h,Sem.run_pure,Result.andThen_ok]⟩⟩
theorem J8i {P:Program} {ops:List Oper} {id:Nat} {Q:Exit -> Act -> World -> Prop} {a0:Act} {w:World} (news:List Nat) (kl:List Kind) (jl:List Nat) (pl:List (List Nat)) (tail:List Nat) (Dl:List Spec) (El:List ((Nat -> Value) -> World -> World -> Prop))
    (hm:P.follows .mixedOrders=true) (hjl:jl=List.range' 0 ops.length) (hok:okL ops pl kl tail El.length=true) (hnews:news.all (fun j=>decide (j < ops.length) && X4q (lookup kl .plain j))=true)
    (hvc:Y5a P ops.toArray (lookup pl []) tail w.drew (fun k=>(lookup Dl .none k).D) El (fun _ w1 w=>w=w1) ops kl jl (fun _=>a0))
    (hmade:∀ j ∈ news,∀ o,ops[j]?=some o -> Made P o)
    (hpost:∀ v w1,Ext w.drew w1 -> J1b news v -> All (lookup pl []) (fun k=>(lookup Dl .none k).D) v w1 tail jl (∀ w',endOf (lookup pl []) v w1 w' tail El -> Q .normal (acts v ops jl a0) w')) :
    (Code.region id ops.toArray true).wp P Q a0 w:=Z8a news kl jl pl tail Dl El hm hjl hok (Q9w _ _ _ _ _ _ hvc) hnews hmade hpost
end Go.Flow
namespace Go.Proofs
open Go.RowKit Go.Tw Go.ChangeShapes Go.WideShapes Go.Deep
theorem J9d {n:Int} (h:(Lit.int .u8 n).wf=true):∃ k:Nat,k < 256 /\ n=(k:Int):=by
 unfold Lit.wf at h;rw [Bool.and_eq_true,decide_eq_true_eq,decide_eq_true_eq] at h;have h1:IntKind.min .u8=0:=by decide
 have h2:IntKind.max .u8=255:=by decide
 rw [h1,h2] at h;exact ⟨n.toNat,by omega,by omega⟩
end Go.Proofs
namespace Go.Proofs
open Go.RowKit Go.Tw Go.Flow
theorem Tryz.info22:(Tryz.prog.info? 22).map (fun i=>(i.zero,i.size,i.bytes))=some (some (.slice none 0 0),1,24):=by kernel_rfl
theorem RL.insert {w:World} {vs:List Value} {ll:List (List Int)} {v:Value} {l:List Int} {n:Nat} (h:RL w vs ll) (hv:Q0q w 0 3 (.int .i64) v l) (hn:n <= ll.length):RL w (vs.take n ++ [v] ++ vs.drop n) (ll.take n ++ [l] ++ ll.drop n):=by
 obtain ⟨h1,h2⟩:=h;refine ⟨by simp [h1],fun i hi=>?_⟩
 have hlen:(ll.take n ++ [l] ++ ll.drop n).length=ll.length + 1:=by simp; omega
 rw [hlen] at hi;rw [J3x v undef n vs i (by omega),J3x l [] n ll i hn]
 by_cases h3:i < n
 . rw [if_pos h3,if_pos h3]; exact h2 i (by omega)
 . rw [if_neg h3,if_neg h3]
   by_cases h4:i=n
   . rw [if_pos h4,if_pos h4]; exact hv
   . rw [if_neg h4,if_neg h4]; exact h2 (i - 1) (by omega)
theorem J7d {α:Type} (a b:List α) (d:α) (j:Nat):(a ++ b).getD j d=if j < a.length then a.getD j d else b.getD (j - a.length) d:=by
 by_cases h:j < a.length
 . rw [if_pos h]; simp [List.getElem?_append_left h]
 . rw [if_neg h]; simp [List.getElem?_append_right (show a.length <= j by omega)]
theorem RL.app {w:World} {vs us:List Value} {ll mm:List (List Int)} (h:RL w vs ll) (k:RL w us mm):RL w (vs ++ us) (ll ++ mm):=by
 refine ⟨by simp [h.1,k.1],fun j hj=>?_⟩
 rw [J7d,J7d,h.1];rw [List.length_append] at hj
 by_cases h3:j < ll.length
 . rw [if_pos h3,if_pos h3]; exact h.2 j h3
 . rw [if_neg h3,if_neg h3]; exact k.2 _ (by omega)
theorem J4c {K:Value -> World -> Prop} {o:Oper} {a:Act} {w:World} (s x:Operand) (ho:o.op=.call { callee:=.builtin .append,args:=#[s,x],argTypes:=#[72,72] })
    {B:Nat} {v u:Value} {L M:List (List Int)} (hs:a.eval s=v) (h1:LL w B v L) (hx:a.eval x=u) (h2:LL w B u M) (hL:L.length <= 2000) (hM:M.length <= 2000) (hB:B <= w.heap.size)
    (hK:∀ v' w',LL w' B v' (L ++ M) -> Below B w w' -> K v' w'):gives Tryz.prog K ((execOp a.eval o).run Tryz.prog w):=by
 obtain ⟨i0,hi,hz0,hz1,hz2⟩:=info_parts Tryz.info22;obtain ⟨vs,o1,m1⟩:=h1;obtain ⟨us,o2,m2⟩:=h2;have l1:=m1.1;have l2:=m2.1;exact Q5d s x 72 ho B 22 i0 (.slice none 0 0) 24 Tryz.underlying72 hi hz0 hz1 hz2 rfl idV v u vs us hs o1 hx (Y7q o2) m2.one (by omega) (by decide) hB fun v' w' hown hg=>hK _ _ ⟨vs ++ us,hown,(m1.grown o1 (by decide) hg).app (m2.grown o1 (by decide) hg)⟩ (below_grown o1 hg (Nat.le_refl _) hB)
theorem J7j {w:World} {b o n c:Nat} {l:List Int} (h:Q0d w (.slice (some ⟨b,o,none⟩) n c) l) (hn:l.length=n):∀ j u,(l.map (Value.int .i64))[j]?=some u -> w.cell? ((⟨b,o,none⟩:Addr).add j)=some u:=by
 subst hn;obtain ⟨A,cap,hv,hl,hcap,hc⟩:=h.opened;cases hv;intro j u hj;rw [List.getElem?_map] at hj;obtain ⟨y,hy,rfl⟩:=Option.map_eq_some_iff.1 hj;obtain ⟨hjl,rfl⟩:=List.getElem?_eq_some_iff.1 hy;obtain ⟨b',off',he,hcell⟩:=hc j hjl;cases he;rw [addr_add,hcell,Q4s hjl]
theorem J6o {h:List Int} {row:List (List Int)} {n:Nat} (hn:n=Q2x h row row.length) (h0:n=0 ∨ row.getD (n - 1) [] ≠ h):Q9j h row=row.take n ++ [h] ++ row.drop n:=by
 unfold Q9j;simp only [<- hn];rw [if_neg];rintro ⟨h1,h2⟩
 rcases h0 with h0 | h0
 . omega
 . exact h0 h2
theorem J8f {h:List Int} {row:List (List Int)} {n:Nat} (hn:n=Q2x h row row.length) (h0:0 < n) (he:row.getD (n - 1) []=h):Q9j h row=row:=by
 unfold Q9j;simp only [<- hn];rw [if_pos ⟨h0,he⟩]
theorem J7m {s:Q0b} {t i:Nat} (hi:i <= s.members.length) (h:∀ k,k < s.members.length -> t + 1 <= (Q0c s.members k).length):∀ j,j < (s.X0s t i).length -> ((s.X0s t i).getD j []).length=t + 1:=by
 intro j hj;rw [Q0v _ hj];obtain ⟨k,hk,he⟩:=(Q0b.X4u t _ i).1 (List.getElem_mem hj);rw [he,List.length_take];have:=h k (by omega)
 omega
theorem J7w {s:Q0b} (hS:Q1b s) {w:World} {B:Nat} {x:Value} (h:LL w B x s.hist):Q2z w x s.hist:=by
 refine h.read (by have:=Z5n hS; omega) fun j hj=>?_
 rw [Q0v _ hj];have:=Z2v hS _ (List.getElem_mem hj);omega
theorem J8j {s:Q0b} (hS:Q1b s):0 < s.hist.length:=by
 refine List.length_pos_of_mem (a:=(Q0c s.members 0).take (0 + 1)) ?_;exact (Q0b.Q4n _ _).2 ⟨0,hS.tides.1,0,hS.some.1,rfl⟩
theorem J6l {α:Type} {w:World} {base base' k:Nat} {e:TypeId} {enc:α -> List Value} {v:Value} {l:List α} (h:Q0z w base e k enc v l) (hb:base' <= base):Q0z w base' e k enc v l:=by
 obtain ⟨h1,h2⟩:=h;refine ⟨h1,?_⟩
 rcases h2 with h2 | ⟨g,cap,cur,hv,hbg,r⟩
 . exact .inl h2
 . exact .inr ⟨g,cap,cur,hv,Nat.le_trans hb hbg,r⟩
theorem J5z (w:World) (a:Option Addr) (n c:Nat) (b:Bool):(Instr.build 115 #[(0,.slice a n c),(1,.bool b)]).run Tryz.prog w=.ok (.agg #[.slice a n c,.bool b]) w:=by kernel_rfl
theorem J7p (w:World) (a:Option Addr) (n c:Nat) (b:Bool):(Instr.buildSlice 45 1 #[(0,.agg #[.slice a n c,.bool b])]).run Tryz.prog w=.ok (.slice (some ⟨w.heap.size,0,none⟩) 1 1) (w.alloc (.cells #[.slice a n c,.bool b] 115)):=by kernel_rfl
theorem Tryz.J8r (w:World):(sizeOf 45).run Tryz.prog w=.ok 1 w:=by kernel_rfl
theorem J8a {α:Type} {w:World} {base k:Nat} {e:TypeId} {enc:α -> List Value} {v:Value} {l:List α} (h:Q0z w base e k enc v l) (h0:0 < l.length) :
    ∃ g cap cur,v=.slice (some ⟨g,0,none⟩) l.length cap /\ base <= g /\ Blk w g e cur /\ l.length <= cap /\ cap <= maxLen /\ cur.size=cap * k /\ cur.toList.take (l.length * k)=l.flatMap enc:=by
 rcases h.2 with ⟨_,hn⟩ | ⟨g,cap,cur,hv,hb,hg,hc,hm,hs,ht⟩
 . omega
 . exact ⟨g,cap,cur,hv,hb,hg,hc,hm,hs,ht⟩
theorem J7u {α:Type} {w:World} {g k:Nat} {e:TypeId} {enc:α -> List Value} {cur:Array Value} {l:List α} (hk:∀ x,(enc x).length=k) (hb:Blk w g e cur) (ht:cur.toList.take (l.length * k)=l.flatMap enc) {i j:Nat} (hi:i < l.length) (hj:j < k):w.cell? ⟨g,i * k + j,none⟩=(enc l[i])[j]?:=by
 rw [hb.cell,<- flat_get hk l i j hi hj,<- ht,List.getElem?_take,if_pos,Array.getElem?_toList];have:(i + 1) * k <= l.length * k:=Nat.mul_le_mul_right k hi;rw [Nat.add_mul] at this;omega
end Go.Proofs
