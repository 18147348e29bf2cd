/- Worlds that differ from an earlier one in one block alone; slices of structs appended to in such a world. A whole load of a block inside a drawn region. Contract of the reference: Kept. Contracts of the reference: Closings, Delay. The contract of the reference's Lowest. The groups as the reference makes them are those of the specification: plain lists, no program is in sight. Certificates and refusals: what is accepted and what is not; plain lists, no program is in sight. Contract of the reference: Chance. Contract of the reference: coded. Contracts of the reference: Short, ShortPolicy, ShortGroups. -/
import Derived.Test.YthnobngcipaljaaGreatDoorPp05
import Derived.Test.YthnobngcipaljaaGreatDoorPp01
import Derived.Test.YthnobngcipaljaaGreatDoorPp08
import Derived.Test.YthnobngcipaljaaGreatDoorPp04
import Derived.Test.YthnobngcipaljaaGreatDoorPp07
import Derived.Deep.DeepMust
import Derived.Deep.DeepCutAuto
set_option maxRecDepth 1000000
set_option maxHeartbeats 64000000
set_option linter.unusedVariables false
set_option linter.unusedSimpArgs false
set_option linter.constructorNameAsVariable false
open Go.Lib (hid)
namespace Go.Tw
open Go.RowKit Go.Flow
def Off (O:Nat) (w w':World):Prop:=Below O w w' /\ w.heap.size <= w'.heap.size /\ ∀ b,b < w.heap.size -> b ≠ O -> w'.heap[b]?=w.heap[b]?
theorem Off.refl (O:Nat) (w:World):Off O w w:=⟨Below.refl _ _,Nat.le_refl _,fun _ _ _=>rfl⟩
theorem Off.ext {O:Nat} {a b c:World} (h:Off O a b) (hx:Ext b c) (hO:O <= b.heap.size):Off O a c :=
 ⟨h.1.trans (hx.mono hO),Nat.le_trans h.2.1 hx.size,fun k hk hne=>(Below.block hx k (Nat.lt_of_lt_of_le hk h.2.1)).trans (h.2.2 k hk hne)⟩
theorem Off.grown {O base n size:Nat} {e:TypeId} {v:Value} {xs:List Value} {a b c:World} (h:Off O a b) (hown:b.ownsRow base e size v n xs) (hb:a.heap.size <= base) (hO:O <= a.heap.size) (hg:b.grownBy c v.ownBlock):Off O a c:=by
 have hbel:Below O b c:=Below.grown (Below.refl _ _) hg (Nat.le_trans hO h.2.1) (fun k hk=>by have:=(hown.lt k hk).1; omega)
 have hbel2:Below a.heap.size b c:=Below.grown (Below.refl _ _) hg h.2.1 (fun k hk=>by have:=(hown.lt k hk).1; omega)
 exact ⟨h.1.trans hbel,Nat.le_trans h.2.1 hbel2.size,fun k hk hne=>(hbel2.block k hk).trans (h.2.2 k hk hne)⟩
theorem Off.set {O:Nat} {a b:World} (h:Off O a b) (k:Nat) (u:Value):Off O a (b.setCell ⟨O,k,none⟩ u) :=
 ⟨h.1.setCell (p:=⟨O,k,none⟩) (Nat.le_refl _) u,by simpa using h.2.1,fun j hj hne=>(Below.heap_setCell _ _ _ _ hne).trans (h.2.2 j hj hne)⟩
theorem Q0z.off {α:Type} {w w':World} {base O k:Nat} {e:TypeId} {enc:α -> List Value} {v:Value} {l:List α} (h:Q0z w base e k enc v l) (hO:O < base) (hx:Off O w w'):Q0z w' base e k enc v l:=by
 obtain ⟨h1,h2⟩:=h;refine ⟨h1,?_⟩
 rcases h2 with h2 | ⟨g,cap,cur,hv,hb,hg,r⟩
 . exact .inl h2
 . exact .inr ⟨g,cap,cur,hv,hb,by rw [hx.2.2 g (Array.getElem?_eq_some_iff.1 hg).1 (by omega)]; exact hg,r⟩
theorem Q0z.setCell {α:Type} {w:World} {base k:Nat} {e:TypeId} {enc:α -> List Value} {v:Value} {l:List α} (h:Q0z w base e k enc v l) {p:Addr} (hp:p.block < base) (u:Value):Q0z (w.setCell p u) base e k enc v l :=
 h.only hp (Q2p w p u)
theorem Q3d {w w':World} {v cv:Value} {l:List Int} {base n size:Nat} {T e:TypeId} {xs:List Value} (h:Q0q w 0 T (Value.int .i64) v l) (hown:w.ownsRow base e size cv n xs) (he:e ≠ T) (hg:w.grownBy w' cv.ownBlock):Q0q w' 0 T (Value.int .i64) v l:=by
 obtain ⟨h1,h2⟩:=h;refine ⟨h1,?_⟩
 rcases h2 with h2 | ⟨g,cap,cur,hv,hb,hgl,r⟩
 . exact .inl h2
 . refine .inr ⟨g,cap,cur,hv,hb,?_,r⟩
   rw [hg.block g (Array.getElem?_eq_some_iff.1 hgl).1 ?_]; exact hgl;intro e'
   rcases hown.2 with ⟨rfl,_⟩ | ⟨g',_,cur',rfl,_,hg',_⟩
   . cases e'
   . have e2:g=g':=by simpa [Value.ownBlock] using e'
     rw [e2,hg'] at hgl;injection hgl with hgl;injection hgl with _ h3 _;exact he h3
theorem Q5l {w w':World} {cv:Value} {base n size g:Nat} {T e:TypeId} {cs:Array Value} {xs:List Value} (h:Blk w g T cs) (hown:w.ownsRow base e size cv n xs) (hb:g < base) (hg:w.grownBy w' cv.ownBlock):Blk w' g T cs:=by
 unfold Blk at *;rw [hg.block g (Array.getElem?_eq_some_iff.1 h).1 ?_]; exact h;intro e';have:=(hown.lt g e'.symm).1;omega
theorem Q8a {w:World} {v u:Value} {l:List Int} {O k:Nat} {T S:TypeId} {cs:Array Value} (h:Q0q w 0 T (Value.int .i64) v l) (hb:Blk w O S cs) (hT:S ≠ T):Q0q (w.setCell ⟨O,k,none⟩ u) 0 T (Value.int .i64) v l:=by
 obtain ⟨h1,h2⟩:=h;refine ⟨h1,?_⟩
 rcases h2 with h2 | ⟨g,cap,cur,hv,hbb,hgl,r⟩
 . exact .inl h2
 . refine .inr ⟨g,cap,cur,hv,hbb,?_,r⟩
   rw [Below.heap_setCell _ _ _ _ ?_]; exact hgl;intro e';have e2:g=O:=e';unfold Blk at hb;rw [e2,hb] at hgl;injection hgl with hgl;injection hgl with _ h3 _;exact hT h3
theorem Q0z.rowsOf {α β:Type} {w:World} {base:Nat} {e:TypeId} {k:Nat} {enc:α -> List Value} {v:Value} {L:List α} {l:List β} {R:World -> (Nat -> Value) -> β -> Prop} (h:Q0z w base e k enc v L) (hlen:L.length=l.length) (hl:l.length <= 17592186043904)
    (hk:∀ x,(enc x).length=k) (hR:∀ j (h1:j < L.length) (h2:j < l.length),R w (fun i=>((enc L[j])[i]?).getD undef) l[j]) (hloc:∀ c c' x,(∀ i,i < k -> c i=c' i) -> R w c x -> R w c' x):Go.Tw.Rows k R w v l:=by
 refine ⟨fun j=>((L.flatMap enc)[j]?).getD undef,?_,fun j hj=>hloc _ _ _ (fun i hi=>?_) (hR j (by omega) hj)⟩
 . obtain ⟨_,h2⟩:=h
   rw [hlen] at h2
   rcases h2 with ⟨rfl,h0⟩ | ⟨g,cap,cur,rfl,_,hg,hcap,_,_,htake⟩
   . exact ⟨none,0,by rw [h0],hl,by omega,fun j hj=>by rw [h0,Nat.zero_mul] at hj; omega⟩
   . refine ⟨some ⟨g,0,none⟩,cap,rfl,hl,hcap,fun j hj=>⟨g,0,rfl,?_⟩⟩
     rw [Nat.zero_add];have h1:=congrArg (fun l=>l[j]?) htake;simp only [List.getElem?_take,hj,if_true] at h1;have hlt:j < (L.flatMap enc).length:=by rw [X0z hk,hlen]; exact hj
     rw [List.getElem?_eq_getElem hlt] at h1;simp only [World.cell?,hg,List.getElem?_eq_getElem hlt,Option.getD_some]
     simpa using h1
 . show ((enc L[j])[i]?).getD undef=((L.flatMap enc)[j * k + i]?).getD undef
   rw [flat_get hk L j i (by omega) hi]
theorem Q2i {α:Type} {P:Program} {K:Value -> World -> Prop} {o:Oper} {a:Act} {w:World} (s x:Operand) (t:TypeId) (ho:o.op=.call { callee:=.builtin .append,args:=#[s,x],argTypes:=#[t,t] })
    (base:Nat) (e:TypeId) (i:TypeInfo) (z:Value) (k bytes:Nat) (ht:P.underlying t=some (.slice e)) (hi:P.info? e=some i) (hz:i.zero=some z) (hsize:i.size=k) (hby:i.bytes=bytes) (hzs:z.cells.size=k) (hk0:0 < k)
    (enc:α -> List Value) (hk:∀ x,(enc x).length=k) (v:Value) (xs:List α) (y:α) (hs:a.eval s=v) (hown:Q0z w base e k enc v xs) (ad:Addr) (c:Nat) (hx:a.eval x=.slice (some ad) 1 c)
    (hnews:∀ j u,(enc y)[j]?=some u -> w.cell? (ad.add j)=some u) (h1:∀ u ∈ enc y,u.oneCell'=true)
    (h63:xs.length + 1 <= 100000) (hb:bytes <= 1000) (hbase:base <= w.heap.size)
    (h:∀ v' w',Q0z w' base e k enc v' (xs ++ [y]) -> w.grownBy w' v.ownBlock -> K v' w'):gives P K ((execOp a.eval o).run P w):=by
 obtain ⟨v',w',hr,h2,h3,h4⟩:=run_append_own (P:=P) w base t o.type e i z k bytes ht hi hz hsize hby hzs hk0 v xs.length (xs.flatMap enc) hown ad 1 c (enc y) (by rw [hk]; omega) hnews h1 (by unfold maxLen; omega) (by
     have:(xs.length + 1) * bytes <= 100000 * 1000:=Nat.mul_le_mul h63 hb;omega) hbase
 unfold execOp;simp only [ho,resolve,invoke,builtin,Sem.run_bind,Sem.run_pure,Result.andThen_ok,List.map_toArray,List.map_cons,List.map_nil,hs,hx,hr];exact h v' w' (Q0z.snoc h2) h3
theorem Q5g {w:World} {g:Nat} {T:TypeId} {xs:List Value} (h:Blk w g T xs.toArray):∀ j u,xs[j]?=some u -> w.cell? ((⟨g,0,none⟩:Addr).add j)=some u:=by
 intro j u hu;rw [addr_add,Nat.zero_add,h.cell]
 simpa using hu
end Go.Tw
namespace Go.Proofs
open Go.RowKit Go.Tw Go.Flow
theorem Q0p {P:Program} {K:Value -> World -> Prop} {o:Oper} {a:Act} {w:World} (p:Operand) (T:TypeId) (ho:o.op=.load T p) (hA:∀ w,(isAgg T).run P w=.ok true w) {n:Nat} (hS:∀ w,(sizeOf T).run P w=.ok n w)
    {g:Nat} (hp:a.eval p=.pointer (some ⟨g,0,none⟩)) {BT:TypeId} {cs:Array Value} (hb:Blk w g BT cs) (hn:cs.size=n) (h:K (.agg cs) w):gives P K ((execOp a.eval o).run P w):=by
 subst hn;unfold execOp;simp only [ho,hp,Instr.loadAt,Instr.sureAddr,Sem.run_bind,Sem.run_pure,Result.andThen_ok,Q3a hb hA hS];exact h
theorem Q2b {P:Program} {K:Value -> World -> Prop} {o:Oper} {a:Act} {w:World} (p x:Operand) (T:TypeId) (ho:o.op=.store T p x)
    {n:Nat} (hS:∀ w,(sizeOf T).run P w=.ok n w) {g:Nat} (hp:a.eval p=.pointer (some ⟨g,0,none⟩)) {BT:TypeId} {cs vs:Array Value} (hx:a.eval x=.agg vs) (hb:Blk w g BT cs) (hn:cs.size=n) (hv:vs.size=n) (h1:∀ u ∈ vs.toList,u.oneCell'=true)
    (h:∀ v w',Blk w' g BT vs -> (∀ n,n <= g -> Below n w w') -> (∀ k,k ≠ g -> w'.heap[k]?=w.heap[k]?) -> K v w'):gives P K ((execOp a.eval o).run P w):=by
 obtain ⟨w',hr,hb',hl,hoo⟩:=Q7v (P:=P) vs.toList 0 w cs hb h1 (by simp [hn,hv])
 have hs:(storeVar T ⟨g,0,none⟩ (.agg vs)).run P w=.ok () w':=by
  have hc:(Value.agg vs).cells=vs:=rfl;unfold storeVar;simp only [Sem.run_bind,hS,Result.andThen_ok];rw [if_neg (by rw [hc]; simp [hv])]
  exact hr
 have hr2:(execOp a.eval o).run P w=.ok .skip w':=by
  unfold execOp;simp only [ho,hp,hx,Instr.storeAt,Instr.sureAddr,Sem.run_bind,Sem.run_pure,Result.andThen_ok,hs]
 rw [hr2];exact h _ _ (by simpa using hb') hl hoo
theorem Q1z {P:Program} {w:World} {ops:Array Oper} {rest:List Oper} {o:Oper} {a:Act} {Q:Exit -> Act -> World -> Prop} (hg:o.guard=none)
    (h:gives P (fun u w'=>wpList P ops Q rest (a.put o.dst u) w') ((execOp a.eval o).run P w)):wpList P ops Q (o :: rest) a w :=
 wpList_plain hg fun K' hK'=>by
  unfold Oper.wp;exact Q1y (Q4a (fun _ _ hk=>hK' _ _ hk) h)
theorem X1z {P:Program} {w:World} {ops:Array Oper} {rest:List Oper} {o:Oper} {a:Act} {Q:Exit -> Act -> World -> Prop} (hg:o.guard=none) (p x:Operand) (T:TypeId) (hop:o.op=.store T p x)
    (hT:∀ w,(sizeOf T).run P w=.ok 1 w) {g k:Nat} (hp:a.eval p=.pointer (some ⟨g,k,none⟩)) {u:Value} (hx:a.eval x=u) (hu:u.cells=#[u]) (h1:u.oneCell'=true) {BT:TypeId} {cs:Array Value} (hb:Blk w g BT cs) (hk:k < cs.size)
    (hK:∀ w',Blk w' g BT (cs.setIfInBounds k u) -> (∀ n,n <= g -> Below n w w') -> (∀ k,k ≠ g -> w'.heap[k]?=w.heap[k]?) -> wpList P ops Q rest (a.put o.dst undef) w'):wpList P ops Q (o :: rest) a w:=by
 refine wpList_plain hg fun K' hK'=>?_;unfold Oper.wp;have h0:=hb.cell k;rw [Array.getElem?_eq_getElem hk] at h0;have hs:(storeVar T ⟨g,k,none⟩ u).run P w=.ok () (w.setCell ⟨g,k,none⟩ u):=by
  unfold storeVar;simp only [Sem.run_bind,hT,Result.andThen_ok,hu];rw [if_neg (by simp)]
  simp only [storeCells,Sem.run_bind,Sem.run_pure];have ea:(⟨g,k,none⟩:Addr).add 0=⟨g,k,none⟩:=by rw [addr_add,Nat.add_zero]
  rw [ea,run_store P w _ u _ h1];simp only [h0,hb.frozen k,Bool.false_eq_true,if_false,Result.andThen_ok]
 have hr2:(execOp a.eval o).run P w=.ok .skip (w.setCell ⟨g,k,none⟩ u):=by
  unfold execOp;simp only [hop,hp,hx,Instr.storeAt,Instr.sureAddr,Sem.run_bind,Sem.run_pure,Result.andThen_ok,hs]
 rw [hr2];exact hK' _ _ (hK _ (hb.set k u) (fun n hn=>(Below.refl n w).setCell (p:=⟨g,k,none⟩) hn u) (fun k' hk'=>Below.heap_setCell _ _ _ _ hk'))
end Go.Proofs
namespace Go.Proofs
open Go.RowKit Go.Tw Go.Flow
attribute [local go_sem] Oper.semAt_some
def Z5p (s:Q0b) (p:List Rul) (i:Nat):Bool:=(Q2e s i).keeps s.limit (Q0m p (Q0c s.members i))
def Q6n (s:Q0b) (p:List Rul) (k:Nat):List Int:=((List.range k).filter (Z5p s p)).map Int.ofNat
theorem Z0b (s:Q0b) (p:List Rul):Q6n s p s.members.length=Q3r s p:=rfl
theorem Y4m (s:Q0b) (p:List Rul) (k:Nat):Q6n s p (k + 1)=if Z5p s p k then Q6n s p k ++ [(k:Int)] else Q6n s p k:=by
 unfold Q6n;rw [List.range_succ,List.filter_append,List.map_append]
 by_cases h:Z5p s p k=true
 . rw [if_pos h]; simp [h]
 . rw [if_neg h]; simp [h]
theorem X8i (s:Q0b) (p:List Rul) (k:Nat):(Q6n s p k).length <= k:=by
 unfold Q6n;rw [List.length_map];exact Nat.le_trans (List.length_filter_le _ _) (by simp)
theorem X3p (w:World) (x y:Value):(Instr.field 99 (.agg #[x,y]) 1).run Tryz.prog w=.ok y w:=by kernel_rfl
attribute [local go_sem ↓] X3p
end Go.Proofs
namespace Go.Proofs
open Go.RowKit Go.Tw Go.Flow
attribute [local go_sem] Oper.semAt_some
def Q4i (s:Q0b) (p:List Rul) (f:List Bool -> Int):Nat -> Int
 | 0=>0
 | k + 1=>Q4i s p f k + Q0i s.members k * f (Q0m p (Q0c s.members k))
theorem X5u (s:Q0b) (p:List Rul) (f:List Bool -> Int):∀ k,k <= s.members.length -> Q4i s p f k=((s.members.take k).map fun m=>m.weight * f (Q0m p m.classes)).sum
 | 0,_=>by simp [Q4i]
 | k + 1,h=>by
   unfold Q4i;rw [X5u s p f k (by omega),List.take_succ_eq_append_getElem (by omega),List.map_append,List.sum_append]
   unfold Q0i Q0c;rw [Q0v _ (show k < s.members.length by omega)]
   simp
theorem X7v (s:Q0b) (p:List Rul) (f:List Bool -> Int):Q4i s p f s.members.length=(s.members.map fun m=>m.weight * f (Q0m p m.classes)).sum:=by
 rw [X5u s p f _ (Nat.le_refl _),List.take_length]
theorem X5h {s:Q0b} (hS:Q1b s) (p:List Rul) {f:List Bool -> Int} {M:Int} (hM:0 <= M) (hf:∀ l:List Bool,l.length <= s.ships.length -> 0 <= f l /\ f l <= M):∀ k,k <= s.members.length -> 0 <= Q4i s p f k /\ Q4i s p f k <= k * (1000 * M)
 | 0,_=>by simp [Q4i]
 | k + 1,h=>by
   have ih:=X5h hS p hM hf k (by omega)
   have hw:=hS.weights k (by omega)
   have hc:=hf (Q0m p (Q0c s.members k)) (by rw [Q2n,(hS.shaped k (by omega)).1]; exact Nat.le_refl _)
   have h1:0 <= Q0i s.members k * f (Q0m p (Q0c s.members k)):=Int.mul_nonneg (by omega) hc.1
   have h2:Q0i s.members k * f (Q0m p (Q0c s.members k)) <= 1000 * M:=Int.mul_le_mul hw.2 hc.2 hc.1 (by omega)
   unfold Q4i;have h3:((k + 1:Nat):Int) * (1000 * M)=(k:Int) * (1000 * M) + 1000 * M:=by rw [Int.natCast_add,Int.add_mul]; simp
   rw [h3];omega
theorem Z1d {s:Q0b} (hS:Q1b s) (l:List Bool) (hl:l.length <= s.ships.length):0 <= Q6e s l /\ Q6e s l <= 6000:=by
 unfold Q6e;have h6:=hS.tides.2;have:∀ k,k <= l.length -> 0 <= ((List.range k).map fun t=>if l.getD t false then ix s.ships t else 0).sum /\ ((List.range k).map fun t=>if l.getD t false then ix s.ships t else 0).sum <= k * 1000:=by
  intro k
  induction k with
  | zero=>intro _; simp
  | succ k ih =>
    intro hk;have:=ih (by omega)
    rw [List.range_succ,List.map_append,List.sum_append];have hd:=hS.delays (ix s.ships k) (by rw [Q4s (show k < s.ships.length by omega)]; exact List.getElem_mem _)
    have e:(List.map (fun t=>if l.getD t false=true then ix s.ships t else 0) [k]).sum=if l.getD k false=true then ix s.ships k else 0:=by simp
    rw [e]
    split <;> omega
 have:=this l.length (Nat.le_refl _);omega
theorem X0y {s:Q0b} (hS:Q1b s) (l:List Bool) (hl:l.length <= s.ships.length):0 <= countB l /\ countB l <= 6:=by
 have:=countB_le l;have:=hS.tides.2;omega
end Go.Proofs
namespace Go.Proofs
open Go.RowKit Go.Tw Go.Flow
theorem Z4r (a b:Int) (h0:0 <= a) (hb:0 < b):Int.gcd b (a.tmod b)=Int.gcd a b:=by
 obtain ⟨n,rfl⟩:=Int.eq_ofNat_of_zero_le h0;obtain ⟨m,rfl⟩:=Int.eq_ofNat_of_zero_le (Int.le_of_lt hb);show Nat.gcd m (n % m)=Nat.gcd n m;rw [Nat.gcd_comm n m,Nat.gcd_comm m,<- Nat.gcd_rec]
theorem Ext.frozen {a b:World} (h:Ext a b) {p:Addr} (hp:p.block < a.heap.size):b.frozen? p=a.frozen? p:=by
 obtain ⟨_,_,_,_,h5⟩:=h;unfold World.frozen?; rw [h5 _ hp]
end Go.Proofs
namespace Go.Tw
def Z0m (f:Nat -> List Int) (i:Nat):Bool:=!(List.range i).any fun j=>f j == f i
def Q4r (f:Nat -> List Int) (k i:Nat):List Nat:=(List.range k).filter fun j=>f j == f i
def X1b (f:Nat -> List Int) (k:Nat):List Nat:=(List.range k).filter (Z0m f)
theorem Y8a {f:Nat -> List Int} {i:Nat}:Z0m f i=true ↔ ∀ j,j < i -> f j ≠ f i:=by
 unfold Z0m;simp only [Bool.not_eq_true',List.any_eq_false,List.mem_range,beq_iff_eq]
theorem X4r (f:Nat -> List Int) (k i:Nat):Q4r f (k + 1) i=Q4r f k i ++ if f k == f i then [k] else []:=by
 unfold Q4r;rw [List.range_succ,List.filter_append]
 by_cases h:(f k == f i)=true
 . rw [if_pos h]; simp [h]
 . rw [if_neg h]; simp [h]
theorem X6f {f:Nat -> List Int} {i:Nat} (h:Z0m f i=true):∀ {k:Nat},i < k -> (Q4r f k i).head?=some i
 | 0,hk=>absurd hk (Nat.not_lt_zero _)
 | k + 1,hk=>by
   rw [X4r]
   by_cases hi:i < k
   . rw [List.head?_append,X6f h hi]; rfl
   . have e:i=k:=by omega
     subst e;have:Q4r f i i=[]:=by
      unfold Q4r;rw [List.filter_eq_nil_iff];intro j hj hji;exact Y8a.1 h j (List.mem_range.1 hj) (by simpa using hji)
     rw [this,if_pos (by simp)]
     rfl
theorem Q9y (f:Nat -> List Int) (k:Nat):X1b f (k + 1)=X1b f k ++ if Z0m f k then [k] else []:=by
 unfold X1b;rw [List.range_succ,List.filter_append]
 by_cases h:Z0m f k=true
 . rw [if_pos h]; simp [h]
 . rw [if_neg h]; simp [h]
theorem X8v {f:Nat -> List Int} {k i:Nat} (hi:i < k):((Q4r f k i).head? == some i)=Z0m f i:=by
 by_cases h:Z0m f i=true
 . rw [X6f h hi,h]; simp
 . have h':Z0m f i=false:=by simpa using h
   rw [h',beq_eq_false_iff_ne];intro hh;have hex:∃ j,j < i /\ f j=f i:=by
    apply Classical.byContradiction
    intro hno;exact h (Y8a.2 fun j hj e=>hno ⟨j,hj,e⟩)
   obtain ⟨j,hj,e⟩:=hex;have hs:(Q4r f k i).Pairwise (· < ·):=List.pairwise_lt_range.filter _;have hm:j ∈ Q4r f k i:=List.mem_filter.2 ⟨List.mem_range.2 (by omega),by simpa using e⟩
   cases hl:Q4r f k i with
   | nil=>rw [hl] at hm; cases hm
   | cons x l =>
     rw [hl] at hh hs hm;injection hh with hh;subst hh
     rcases List.mem_cons.1 hm with rfl | hm
     . omega
     . have:=(List.pairwise_cons.1 hs).1 j hm
       omega
def Y1p (s:Q0b) (i:Nat):List Int:=Q0c s.members i
theorem X1m (s:Q0b) (i:Nat):Q9e s i=Q4r (Y1p s) s.members.length i:=rfl
theorem X2a (s:Q0b):Q5b s=(X1b (Y1p s) s.members.length).map fun i=>⟨(Q4r (Y1p s) s.members.length i).map Int.ofNat,Y0x s (Q4r (Y1p s) s.members.length i)⟩:=by
 unfold Q5b X1b;simp only [X1m]
 congr 1
 refine List.filter_congr fun i hi=>?_;exact X8v (List.mem_range.1 hi)
end Go.Tw
namespace Go.Tw
theorem Q8t (s:Q0b) (p:List Rul):∀ x ∈ Q3r s p,0 <= x /\ x < s.members.length:=by
 intro x hx;obtain ⟨i,hi,rfl⟩:=List.mem_map.1 hx;have:=List.mem_range.1 (List.mem_filter.1 hi).1;exact ⟨Int.natCast_nonneg i,Int.ofNat_lt.2 this⟩
theorem kept_len (s:Q0b) (p:List Rul):(Q3r s p).length <= s.members.length:=by
 unfold Q3r;rw [List.length_map];exact Nat.le_trans (List.length_filter_le _ _) (by simp)
end Go.Tw
namespace Go.Proofs
open Go.RowKit Go.Tw Go.Flow
attribute [local go_sem] Oper.semAt_some
theorem Y9i {s:Q0b} (hS:Q1b s) {l:List Int} (h:∀ x ∈ l,0 <= x /\ x < s.members.length):(l.length:Int) <= Q2c s l /\ Q2c s l <= 1000 * l.length:=by
 induction l with
 | nil=>exact ⟨Int.le_refl _,by simp [Q2c]⟩
 | cons x l ih =>
   have h1:=ih fun y hy=>h y (List.mem_cons_of_mem _ hy);have hx:=h x (List.mem_cons_self ..);have hw:=hS.weights x.toNat (by omega)
   have e:Q2c s (x :: l)=Q0i s.members x.toNat + Q2c s l:=by simp [Q2c]
   rw [e,List.length_cons];omega
theorem Tryz.Z6t (w:World):(isAgg 107).run Tryz.prog w=.ok true w:=by kernel_rfl
theorem Tryz.Y0s (w:World):(sizeOf 107).run Tryz.prog w=.ok 2 w:=by kernel_rfl
end Go.Proofs
namespace Go.Proofs
open Go.RowKit Go.Tw Go.Flow
theorem Tryz.Y7m (w:World):(sizeOf 4).run Tryz.prog w=.ok 1 w:=by kernel_rfl
end Go.Proofs
namespace Go.Proofs
open Go.RowKit Go.Tw Go.Flow
def Z6f (P:Prop) (w w':World) (e:Ending):Prop:=∃ q,e=.returned (.bool q) /\ (q=true ↔ P) /\ Ext w w'
theorem qno {P:Prop} {w w':World} (h:¬ P) (hx:Ext w w'):Z6f P w w' (.returned (.bool false)):=⟨false,rfl,⟨fun k=>(by cases k),fun k=>absurd k h⟩,hx⟩
theorem J2e {P:Prop} {w w':World} (h:P) (hx:Ext w w'):Z6f P w w' (.returned (.bool true)):=⟨true,rfl,⟨fun _=>h,fun _=>rfl⟩,hx⟩
def X1u (s:Q0b) (i:Nat):Prop:=(Q1h s.members i).size <= 60 /\ (Q0c s.members i).length <= 8 /\ (Q0t s.members i).length <= 8 /\ (Q0y s.members i).length <= 8
structure Q3k (s:Q0b):Prop where
 ships:s.ships.length <= 7
 members:s.members.length <= 9
 each:∀ i,i < s.members.length -> X1u s i
theorem Z8x (w:World) (v:Value) (s:Q0b) (hv:Q0h w v s) :
    Calls Tryz.prog 15 #[v] w fun e w'=>Z6f (Q3k s) w w' e:=by
 obtain ⟨a,b,rfl,h2⟩:=hv;obtain ⟨A,capa,rfl,hla,-,-⟩:=h2.ships.opened;obtain ⟨B,capb,rfl,hlb,-,hc⟩:=h2.members.opened;have HC:=hid hc;clear h2 hc;have HN1:Hid (¬ s.ships.length <= 7 -> ¬ Q3k s):=hid (fun h hs=>h hs.ships);have HN2:Hid (¬ s.members.length <= 9 -> ¬ Q3k s):=hid (fun h hs=>h hs.members);have HN3:Hid (∀ i,i < s.members.length -> ¬ X1u s i -> ¬ Q3k s):=hid (fun i hi h hs=>h (hs.each i hi))
 by_cases h7:7 < s.ships.length
 . have h7I:(7:Int) < s.ships.length:=by omega
   have HF:=hid (HN1.out (by omega))
   clear h7;go_enter Tryz.func15,Tryz.ntmps15;go_wp2;go_ret;exact qno HF.out (Ext.box _ _)
 have h7I:¬ (7:Int) < s.ships.length:=by omega
 by_cases h9:9 < s.members.length
 . have h9I:(9:Int) < s.members.length:=by omega
   have HF:=hid (HN2.out (by omega))
   clear h9 h7;go_enter Tryz.func15,Tryz.ntmps15;go_wp2;go_ret;exact qno HF.out (Ext.box _ _)
 have h9I:¬ (9:Int) < s.members.length:=by omega
 have HOK:Hid ((∀ i,i < s.members.length -> X1u s i) -> Q3k s):=hid (fun h=>⟨by omega,by omega,h⟩)
 clear h7 h9;go_enter Tryz.func15,Tryz.ntmps15;go_wp2_with fail;change Code.wp _ _ _ _ (w.alloc (.cells #[.int .i64 s.limit,.slice A s.ships.length capa,.slice B s.members.length capb] 25));obtain ⟨W,hWW,k0,HXW,eW⟩:=Q1t w 25 #[.int .i64 s.limit,.slice A s.ships.length capa,.slice B s.members.length capb];rw [hWW];clear hWW;have K0:=hid k0;clear k0 h7I h9I
 go_loopw [3] (fun i wr=>∃ k:Nat,k <= s.members.length /\ i=.int .i64 k /\ (∀ j,j < k -> X1u s j) /\ Ext W wr) (fun i _=>s.members.length - (intOf i).toNat)
 case atStart=>exact ⟨0,Nat.zero_le _,rfl,fun j hj=>absurd hj (Nat.not_lt_zero j),Ext.refl _⟩
 case round =>
  obtain ⟨k,hk,rfl,hall,hxr⟩:=hrel;have HALL:=hid hall;have c2:=(K0.out.ext hxr).cell 2;simp only [Go.Tw.gA,Go.Tw.gB,Go.Tw.gC] at c2;have HXR:=hid hxr;clear hall hxr
  by_cases hlt:k < s.members.length
  . have hkI:(k:Int) < s.members.length:=by omega
    obtain ⟨bm,off,x,y,z,rfl,-,e0,e1,e2,e3,e4,hx,hy,hz,-⟩:=HC.out k hlt;obtain ⟨X,capx,rfl,-,-,-⟩:=hx.opened;obtain ⟨Y,capy,rfl,-,-,-⟩:=hy.opened;obtain ⟨Z,capz,rfl,-,-,-⟩:=hz.opened;replace e0:=(HXW.out.trans HXR.out).cell e0;replace e1:=(HXW.out.trans HXR.out).cell e1;replace e2:=(HXW.out.trans HXR.out).cell e2;replace e3:=(HXW.out.trans HXR.out).cell e3;replace e4:=(HXW.out.trans HXR.out).cell e4;have HSA:Hid (X1u s k ↔ (Q1h s.members k).size <= 60 /\ (Q0c s.members k).length <= 8 /\ (Q0t s.members k).length <= 8 /\ (Q0y s.members k).length <= 8):=hid Iff.rfl;have HNK:=hid (HN3.out k hlt);obtain ⟨nm,hnm⟩:∃ x,Q1h s.members k=x:=⟨_,rfl⟩;obtain ⟨wt,hwt⟩:∃ x,Q0i s.members k=x:=⟨_,rfl⟩;obtain ⟨n1,hn1⟩:∃ x,(Q0c s.members k).length=x:=⟨_,rfl⟩;obtain ⟨n2,hn2⟩:∃ x,(Q0t s.members k).length=x:=⟨_,rfl⟩;obtain ⟨n3,hn3⟩:∃ x,(Q0y s.members k).length=x:=⟨_,rfl⟩;rw [hnm] at e0 HSA;rw [hwt] at e1;rw [hn1] at e2 HSA;rw [hn2] at e3 HSA;rw [hn3] at e4 HSA;clear hx hy hz hnm hwt hn1 hn2 hn3
    by_cases g0:60 < nm.size
    . have g0I:(60:Int) < (nm.size:Int):=by omega
      have HF:=hid (HNK.out (fun h=>by have:=(HSA.out.1 h).1; omega))
      clear g0
      go_light
      go_wp2;go_ret;exact qno HF.out (Ext.trans HXW.out (Ext.trans HXR.out (Ext.box _ _)))
    have g0I:¬ (60:Int) < (nm.size:Int):=by omega
    by_cases g1:8 < n1
    . have g1I:(8:Int) < (n1:Int):=by omega
      have HF:=hid (HNK.out (fun h=>by have:=(HSA.out.1 h).2.1; omega))
      clear g0 g1
      go_light
      go_wp2;go_ret;exact qno HF.out (Ext.trans HXW.out (Ext.trans HXR.out (Ext.box _ _)))
    have g1I:¬ (8:Int) < (n1:Int):=by omega
    by_cases g2:8 < n2
    . have g2I:(8:Int) < (n2:Int):=by omega
      have HF:=hid (HNK.out (fun h=>by have:=(HSA.out.1 h).2.2.1; omega))
      clear g0 g1 g2
      go_light
      go_wp2;go_ret;exact qno HF.out (Ext.trans HXW.out (Ext.trans HXR.out (Ext.box _ _)))
    have g2I:¬ (8:Int) < (n2:Int):=by omega
    by_cases g3:8 < n3
    . have g3I:(8:Int) < (n3:Int):=by omega
      have HF:=hid (HNK.out (fun h=>by have:=(HSA.out.1 h).2.2.2; omega))
      clear g0 g1 g2 g3
      go_light
      go_wp2;go_ret;exact qno HF.out (Ext.trans HXW.out (Ext.trans HXR.out (Ext.box _ _)))
    have g3I:¬ (8:Int) < (n3:Int):=by omega
    have HT:=hid (HSA.out.2 ⟨by omega,by omega,by omega,by omega⟩)
    clear g0 g1 g2 g3
    go_light
    go_wp2;go_roundw
    case rel=>exact ⟨k + 1,by omega,by go_num,fun j hj=>by
     by_cases hjk:j=k
     . rw [hjk]; exact HT.out
     . exact HALL.out j (by omega),Ext.trans HXR.out (Ext.box _ _)⟩
    case measure=>simp [intOf]; omega
  . have hkI:¬ (k:Int) < s.members.length:=by omega
    have hke:k=s.members.length:=by omega
    subst hke;have HT:=hid (HOK.out HALL.out);go_wp2;go_ret;exact J2e HT.out (HXW.out.trans HXR.out)
structure Y7c (p:List Rul):Prop where
 rules:p.length <= 49
 each:∀ i,i < p.length -> (Q0n p i).length <= 8
theorem Z0v (w:World) (v:Value) (p:List Rul) (hv:Q0w w v p) :
    Calls Tryz.prog 27 #[v] w fun e w'=>Z6f (Y7c p) w w' e:=by
 obtain ⟨rv,rfl,hr⟩:=hv;obtain ⟨R,capr,rfl,hlr,-,hcr⟩:=hr.opened;have HC:=hid hcr;clear hr hcr;have HN1:Hid (¬ p.length <= 49 -> ¬ Y7c p):=hid (fun h hs=>h hs.rules);have HN3:Hid (∀ i,i < p.length -> ¬ (Q0n p i).length <= 8 -> ¬ Y7c p):=hid (fun i hi h hs=>h (hs.each i hi))
 by_cases h7:49 < p.length
 . have h7I:(49:Int) < p.length:=by omega
   have HF:=hid (HN1.out (by omega))
   clear h7;go_enter Tryz.func27,Tryz.ntmps27;go_wp2;go_ret;exact qno HF.out (Ext.box _ _)
 have h7I:¬ (49:Int) < p.length:=by omega
 have HOK:Hid ((∀ i,i < p.length -> (Q0n p i).length <= 8) -> Y7c p):=hid (fun h=>⟨by omega,h⟩)
 clear h7;go_enter Tryz.func27,Tryz.ntmps27;go_wp2_with fail;change Code.wp _ _ _ _ (w.alloc (.cells #[.slice R p.length capr] 47));obtain ⟨W,hWW,k0,HXW,eW⟩:=Q1t w 47 #[.slice R p.length capr];rw [hWW];clear hWW;have K0:=hid k0;clear k0 h7I
 go_loopw [3] (fun i wr=>∃ k:Nat,k <= p.length /\ i=.int .i64 k /\ (∀ j,j < k -> (Q0n p j).length <= 8) /\ Ext W wr) (fun i _=>p.length - (intOf i).toNat)
 case atStart=>exact ⟨0,Nat.zero_le _,rfl,fun j hj=>absurd hj (Nat.not_lt_zero j),Ext.refl _⟩
 case round =>
  obtain ⟨k,hk,rfl,hall,hxr⟩:=hrel;have HALL:=hid hall;have c0:=(K0.out.ext hxr).cell 0;simp only [Go.Tw.gA,Go.Tw.gB,Go.Tw.gC] at c0;have HXR:=hid hxr;clear hall hxr
  by_cases hlt:k < p.length
  . have hkI:(k:Int) < p.length:=by omega
    obtain ⟨br,off,x,rfl,-,e0,e1,hx⟩:=HC.out k hlt;obtain ⟨X,capx,rfl,-,-,-⟩:=hx.opened;replace e0:=(HXW.out.trans HXR.out).cell e0;have HNK:=hid (HN3.out k hlt);have HID:=hid (rfl:(Q0n p k).length=(Q0n p k).length);obtain ⟨n1,hn1⟩:∃ x,(Q0n p k).length=x:=⟨_,rfl⟩;rw [hn1] at e0 HNK;have HN:=hid hn1;clear hx hn1 e1
    by_cases g1:8 < n1
    . have g1I:(8:Int) < (n1:Int):=by omega
      have HF:=hid (HNK.out (by omega))
      clear g1
      go_light
      go_wp2;go_ret;exact qno HF.out (Ext.trans HXW.out HXR.out)
    have g1I:¬ (8:Int) < (n1:Int):=by omega
    have HT:Hid ((Q0n p k).length <= 8):=hid (by rw [HN.out]; omega)
    clear g1
    go_light
    go_wp2;go_roundw
    case rel=>exact ⟨k + 1,by omega,by go_num,fun j hj=>by
     by_cases hjk:j=k
     . rw [hjk]; exact HT.out
     . exact HALL.out j (by omega),HXR.out⟩
    case measure=>simp [intOf]; omega
  . have hkI:¬ (k:Int) < p.length:=by omega
    have hke:k=p.length:=by omega
    subst hke;have HT:=hid (HOK.out HALL.out);go_wp2;go_ret;exact J2e HT.out (HXW.out.trans HXR.out)
structure J2a (l:List Grp):Prop where
 groups:l.length <= 9
 each:∀ i,i < l.length -> (Q5i l i).length <= 9
end Go.Proofs
