/- Blocks of structs: their cells by a function of the place; stores, copies and clears of parts of a block. Contracts: slices.Clone; copied. -/
import Derived.Test.YtgopmebjbkdfgaaGreatDoorTx20
import Derived.Laws.MakeOwn
import Derived.Test.YtgopmebjbkdfgaaGreatDoorTx11
set_option maxRecDepth 1000000
set_option maxHeartbeats 64000000
set_option linter.unusedVariables false
set_option linter.unusedSimpArgs false
set_option linter.constructorNameAsVariable false
namespace Go.Tw
open Go.RowKit Go.Flow
def Q1c {α:Type} (enc:α -> List Value) (n:Nat) (f:Nat -> α):Array Value:=((List.range n).flatMap fun i=>enc (f i)).toArray
section
variable {α:Type} {enc:α -> List Value} {k:Nat}
theorem X1g (enc:α -> List Value) (n:Nat) (f:Nat -> α):Q1c enc n f = (((List.range n).map f).flatMap enc).toArray:=by unfold Q1c; rw [List.flatMap_map]
theorem Q1d (hk:∀ x,(enc x).length = k) (n:Nat) (f:Nat -> α):(Q1c enc n f).size = n * k:=by
 rw [X1g,List.size_toArray,Q9q hk]; simp
theorem Q2h (hk:∀ x,(enc x).length = k) {n:Nat} (f:Nat -> α) {i j:Nat} (hi:i < n) (hj:j < k):(Q1c enc n f)[i * k + j]? = (enc (f i))[j]?:=by
 rw [X1g,List.getElem?_toArray,flat_get hk _ i j (by simpa using hi) hj]; simp
theorem Q3r {n:Nat} {f g:Nat -> α} (h:∀ i,i < n -> f i = g i):Q1c enc n f = Q1c enc n g:=by
 rw [X1g,X1g]
 congr 2
 exact List.map_congr_left fun i hi=>h i (List.mem_range.1 hi)
def Q1t (cs:Array Value) (o:Nat):List Value -> Array Value
 | []=>cs
 | v :: vs=>Q1t (cs.setIfInBounds o v) (o + 1) vs
theorem X9z (o:Nat):∀ (vs:List Value) (cs:Array Value) ,(Q1t cs o vs).size = cs.size:=by
 intro vs
 induction vs generalizing o with
 | nil=>intro cs; rfl
 | cons v vs ih=>intro cs; rw [Q1t,ih]; simp
theorem Q7h:∀ (vs:List Value) (o:Nat) (cs:Array Value) (j:Nat),o + vs.length <= cs.size -> (Q1t cs o vs)[j]? = if o <= j /\ j < o + vs.length then vs[j - o]? else cs[j]?
 | [],o,cs,j,_=>by rw [Q1t,if_neg (by simp only [List.length_nil]; omega)]
 | v :: vs,o,cs,j,h=>by
   rw [List.length_cons] at h;rw [Q1t,Q7h vs (o + 1) _ j (by simp; omega)]
   by_cases h1:o + 1 <= j /\ j < o + 1 + vs.length
   . rw [if_pos h1,if_pos (by rw [List.length_cons]; omega),show j - o = (j - (o + 1)) + 1 from by omega]; rfl
   . rw [if_neg h1]
     by_cases h2:j = o
     . subst h2
       rw [if_pos (by rw [List.length_cons]; omega),Nat.sub_self]
       rw [Array.getElem?_setIfInBounds];rw [if_pos rfl,if_pos (by omega)]; rfl
     . rw [if_neg (by rw [List.length_cons]; omega),Array.getElem?_setIfInBounds,if_neg (fun e=>h2 e.symm)]
theorem X6c (hk:∀ x,(enc x).length = k) {n:Nat} (f:Nat -> α) {i:Nat} (hi:i < n) (x:α):Q1t (Q1c enc n f) (i * k) (enc x) = Q1c enc n (fun j=>if j = i then x else f j):=by
 have hs:=Q1d hk n f;have hik:i * k + k <= n * k:=by
  rw [<- Nat.succ_mul]; exact Nat.mul_le_mul_right k hi
 apply Array.ext_getElem?
 intro j;rw [Q7h _ _ _ _ (by rw [hk,hs]; exact hik),hk]
 rcases Nat.eq_zero_or_pos k with rfl | hk0
 . rw [if_neg (by omega)]
   have h1:(Q1c enc n f).size = 0:=by rw [hs,Nat.mul_zero]
   have h2:(Q1c enc n (fun j=>if j = i then x else f j)).size = 0:=by rw [Q1d hk,Nat.mul_zero]
   rw [Array.getElem?_eq_none (by omega),Array.getElem?_eq_none (by omega)]
 by_cases hj:j < n * k
 . have hq:j / k < n:=(Nat.div_lt_iff_lt_mul hk0).2 hj
   have hr:j % k < k:=Nat.mod_lt _ hk0;have e:j = j / k * k + j % k:=by rw [Nat.mul_comm]; exact (Nat.div_add_mod j k).symm
   by_cases hqi:j / k = i
   . rw [if_pos (by rw [<- hqi]; omega),show j - i * k = j % k from by rw [<- hqi]; omega]
     conv=>rhs; rw [e]
     rw [Q2h hk _ hq hr];rw [if_pos hqi]
   . rw [if_neg (by
      intro ⟨h1,h2⟩
      apply hqi
      have h3:i <= j / k:=(Nat.le_div_iff_mul_le hk0).2 h1;have h4:j / k < i + 1:=(Nat.div_lt_iff_lt_mul hk0).2 (by rw [Nat.succ_mul]; exact h2)
      omega)]
     conv=>lhs; rw [e]
     conv=>rhs; rw [e]
     rw [Q2h hk _ hq hr,Q2h hk _ hq hr];rw [if_neg hqi]
 . rw [if_neg (by omega),Array.getElem?_eq_none (by rw [hs]; omega),Array.getElem?_eq_none (by rw [Q1d hk]; omega)]
theorem Q5c {P:Program} {g off:Nat} {T:TypeId}:∀ (vs:List Value) (i:Nat) (w:World) (cs:Array Value),Blk w g T cs -> (∀ u ∈ vs,u.oneCell' = true) -> off + i + vs.length <= cs.size ->
    ∃ w',(storeCells ⟨g,off,none⟩ vs i).run P w = .ok () w' /\ Blk w' g T (Q1t cs (off + i) vs) /\ (∀ n,n <= g -> Below n w w') /\ ∀ k,k ≠ g -> w'.heap[k]? = w.heap[k]?
 | [],i,w,cs,h,_,hi=>⟨w,by simp [storeCells],h,fun _ _=>Below.refl _ _,fun _ _=>rfl⟩
 | v :: vs,i,w,cs,h,h1,hi=>by
   rw [List.length_cons] at hi;have hlt:off + i < cs.size:=by omega
   have h0:=h.cell (off + i);rw [Array.getElem?_eq_getElem hlt] at h0;have ea:(⟨g,off,none⟩:Addr).add i = ⟨g,off + i,none⟩:=by rw [addr_add]
   obtain ⟨w',hr,hb,hl,ho⟩:=Q5c (P:=P) (off:=off) vs (i + 1) (w.setCell ⟨g,off + i,none⟩ v) (cs.setIfInBounds (off + i) v) (h.set _ v) (fun u hu=>h1 u (List.mem_cons_of_mem _ hu)) (by rw [Array.size_setIfInBounds]; omega)
   refine ⟨w',?_,?_,fun n hn=>Below.trans ((Below.refl n w).setCell (p:=⟨g,off + i,none⟩) hn v) (hl n hn),fun k hk=>(ho k hk).trans (Below.heap_setCell _ _ _ _ hk)⟩
   . rw [storeCells,ea]
     simp only [Sem.run_bind,run_store P w _ v _ (h1 v (List.mem_cons_self ..)),h0,h.frozen (off + i),Bool.false_eq_true,if_false,Result.andThen_ok];exact hr
   . rw [Q1t]; exact hb
theorem Q8q {P:Program} {K:Value -> World -> Prop} {o:Oper} {a:Act} {w:World} (p x:Operand) (T:TypeId) (ho:o.op = .store T p x)
    {n:Nat} (hS:∀ w,(sizeOf T).run P w = .ok n w) {g off:Nat} (hp:a.eval p = .pointer (some ⟨g,off,none⟩)) {BT:TypeId} {cs vs:Array Value} (hx:a.eval x = .agg vs) (hb:Blk w g BT cs) (hn:off + n <= cs.size) (hv:vs.size = n) (h1:∀ u ∈ vs.toList,u.oneCell' = true)
    (h:∀ v w',Blk w' g BT (Q1t cs off vs.toList) -> (∀ n,n <= g -> Below n w w') -> (∀ k,k ≠ g -> w'.heap[k]? = w.heap[k]?) -> K v w'):gives P K ((execOp a.eval o).run P w):=by
 obtain ⟨w',hr,hb',hl,hoo⟩:=Q5c (P:=P) (off:=off) vs.toList 0 w cs hb h1 (by simp [hv]; omega)
 have hs:(storeVar T ⟨g,off,none⟩ (.agg vs)).run P w = .ok () w':=by
  have hc:(Value.agg vs).cells = vs:=rfl;unfold storeVar;simp only [Sem.run_bind,hS,Result.andThen_ok];rw [if_neg (by rw [hc]; simp [hv])]
  exact hr
 have hr2:(execOp a.eval o).run P w = .ok .skip w':=by
  unfold execOp;simp only [ho,hp,hx,Instr.storeAt,Instr.sureAddr,Sem.run_bind,Sem.run_pure,Result.andThen_ok,hs]
 rw [hr2];exact h _ _ hb' hl hoo
theorem Y2i {P:Program} {w:World} (dT sT ty elem:TypeId) (hu:P.underlying dT = some (.slice elem)) {sz:Nat} (hs:∀ w,(sizeOf elem).run P w = .ok sz w) (n dcap scap:Nat) {g:Nat} {T:TypeId} {cur:Array Value} (hb:Blk w g T cur) (sp:Option Addr) (cs:List Value) (hlen:cs.length = n * sz)
    (hsrc:∀ j v,cs[j]? = some v -> ∃ b off,sp = some ⟨b,off,none⟩ /\ w.cell? ⟨b,off + j,none⟩ = some v) (hfit:cs.length <= cur.size) (h1:∀ v ∈ cs,v.oneCell' = true) :
    ∃ w',(Builtin.copy_ #[dT,sT] ty #[.slice (some ⟨g,0,none⟩) n dcap,.slice sp n scap]).run P w = .ok (goInt n) w' /\ Blk w' g T (Q1t cur 0 cs) /\ (∀ n,n <= g -> Below n w w') /\ ∀ k,k ≠ g -> w'.heap[k]? = w.heap[k]?:=by
 obtain ⟨w',hr,hb',hl,hoo⟩:=Q5c (P:=P) (off:=0) cs 0 w cur hb h1 (by simp; exact hfit)
 refine ⟨w',?_,hb',hl,hoo⟩;have hfc:(Builtin.firstCells sz n (.slice sp n scap)).run P w = .ok cs.toArray w:=by
  cases sp with
  | none =>
    have:cs = []:=by
     cases cs with
     | nil=>rfl
     | cons v vs=>obtain ⟨b,off,he,_⟩:=hsrc 0 v rfl; cases he
    subst this;simp [Builtin.firstCells]
  | some ad =>
    have hl2:=run_loadCells_list (P:=P) w ad cs (fun j v hv=>by
     obtain ⟨b,off,he,hc⟩:=hsrc j v hv;cases he;rw [addr_add]; exact hc)
    rw [hlen] at hl2
    simpa [Builtin.firstCells] using hl2
 simp [Builtin.copy_,run_underlying hu,Builtin.lenOf,hs,hfc,hr]
end
end Go.Tw
namespace Go.Proofs
open Go.RowKit Go.Tw Go.Flow
theorem clone_any (w:World) (v:Value) (l:List Int) (hv:Q0e w v l) :
    Calls Tryz.prog 108 #[v] w fun e w'=>∃ u,e = .returned u /\ Q0s w' 0 3 (.int .i64) u l /\ Ext w w':=by
 obtain ⟨A,cap,rfl,hl,hcap,hc⟩:=hv.opened;cases A with
 | none =>
   have hz:l = []:=by
    cases l with
    | nil=>rfl
    | cons x l=>obtain ⟨b,off,he,_⟩:=hc 0 (by simp); cases he
   subst hz;exact (Tryz.slices_Clone_int_nil _ _ _).mono fun e w' ⟨he,hw⟩=>⟨_,he,Q0s.nil _ _ _ _,by rw [hw]; exact Ext.refl _⟩
 | some a =>
   by_cases h0:l.length = 0
   . have hz:l = []:=List.length_eq_zero_iff.1 h0
     subst hz;exact (Tryz.slices_Clone_int_zero _ _ _).mono fun e w' ⟨v',he,hown,_,hx⟩=>⟨_,he,Q0s.weaken (show Q0s w' w.heap.size 3 (.int .i64) v' [] from hown) (Nat.zero_le _),hx⟩
   . obtain ⟨b,off,he,_⟩:=hc 0 (by omega)
     cases he;refine (Tryz.slices_Clone_int b off l.length cap l w (Nat.le_refl _) (by omega) (fun j hj=>?_)).mono fun e w' ⟨v',he,hown,_,hx⟩=>⟨_,he,Q0s.weaken (show Q0s w' w.heap.size 3 (.int .i64) v' l from by unfold Q0s; rw [List.take_length] at hown; exact hown) (Nat.zero_le _),hx⟩
     obtain ⟨b',off',he,h⟩:=hc j hj;cases he;exact h
theorem Q2b {w:World} {a b:Nat} {T S:TypeId} {cs ds:Array Value} (h:Blk w a T cs) (k:Blk w b S ds) (hT:T ≠ S):a ≠ b:=by
 rintro rfl;unfold Blk at h k;rw [h] at k;injection k with k;injection k with _ k _;exact hT k
theorem _root_.Go.Tw.Blk.only {w w':World} {a g:Nat} {T:TypeId} {cs:Array Value} (h:Blk w a T cs) (hne:a ≠ g) (ho:∀ k,k ≠ g -> w'.heap[k]? = w.heap[k]?):Blk w' a T cs:=by
 unfold Blk at *; rw [ho a hne]; exact h
theorem Q3j {w w':World} {v:Value} {l:List Int} {g:Nat} {T:TypeId} {cs:Array Value} (h:Q0s w 0 3 (.int .i64) v l) (hb:Blk w g T cs) (hT:T ≠ 3) (ho:∀ k,k ≠ g -> w'.heap[k]? = w.heap[k]?):Q0s w' 0 3 (.int .i64) v l :=
 X9y h fun b hv _=>ho b fun e=>X5v hT h hb (by rw [hv,e])
def enc2 (x:ByteArray × Int):List Value:=[.string x.1,.int .i64 x.2]
def enc3 (x:ByteArray × Int × Value):List Value:=[.string x.1,.int .i64 x.2.1,x.2.2]
theorem Q3g (x:ByteArray × Int):(enc2 x).length = 2:=rfl
theorem Q0u (x:ByteArray × Int × Value):(enc3 x).length = 3:=rfl
def emp:ByteArray:=⟨#[]⟩
def zero3:ByteArray × Int × Value:=(emp,0,.slice none 0 0)
def bF (t:Tree) (i:Nat):ByteArray × Int:=(bName t.basics i,Q1b t.basics i)
def cF (t:Tree) (mc:Nat -> Value) (i:Nat):ByteArray × Int × Value:=(cName t.causes i,Q1k t.causes i,mc i)
def gF (t:Tree) (mg:Nat -> Value) (i:Nat):ByteArray × Int × Value:=(Q2f t.gates i,Q3e t.gates i,mg i)
structure Z8m (w:World) (base:Nat) (t:Tree) (gb gc gg:Nat) (mc mg:Nat -> Value):Prop where
 bas:Blk w gb 103 (Q1c enc2 t.basics.length (bF t))
 cau:Blk w gc 106 (Q1c enc3 t.causes.length (cF t mc))
 gat:Blk w gg 114 (Q1c enc3 t.gates.length (gF t mg))
 mem:∀ i,i < t.causes.length -> Q0s w 0 3 (.int .i64) (mc i) (Q0f t.causes i)
 inp:∀ i,i < t.gates.length -> Q0s w 0 3 (.int .i64) (mg i) (Q0m t.gates i)
 b:base <= gb
 c:base <= gc
 g:base <= gg
theorem made2 (n:Nat):madeCells #[.string emp,.int .i64 0] (n * 2) = Q1c enc2 n fun _=>(emp,0):=by
 apply Array.ext_getElem?
 intro j
 by_cases hj:j < n * 2
 . have e:j = j / 2 * 2 + j % 2:=by omega
   conv=>rhs; rw [e]
   rw [Q2h Q3g _ (by omega) (by omega)]
   unfold madeCells
   rcases Nat.mod_two_eq_zero_or_one j with h | h <;> simp [hj,h,enc2]
 . rw [Array.getElem?_eq_none (by rw [size_madeCells]; omega),Array.getElem?_eq_none (by rw [Q1d Q3g]; omega)]
theorem made3 (n:Nat):madeCells #[.string emp,.int .i64 0,.slice none 0 0] (n * 3) = Q1c enc3 n fun _=>zero3:=by
 apply Array.ext_getElem?
 intro j
 by_cases hj:j < n * 3
 . have e:j = j / 3 * 3 + j % 3:=by omega
   conv=>rhs; rw [e]
   rw [Q2h Q0u _ (by omega) (by omega)]
   unfold madeCells;have:j % 3 = 0 ∨ j % 3 = 1 ∨ j % 3 = 2:=by omega
   rcases this with h | h | h <;> simp [hj,h,enc3,zero3]
 . rw [Array.getElem?_eq_none (by rw [size_madeCells]; omega),Array.getElem?_eq_none (by rw [Q1d Q0u]; omega)]
theorem Tryz.Z6v:(Tryz.prog.info? 103).map (fun i=>(i.zero,i.size,i.bytes)) = some (some (.agg #[.string emp,.int .i64 0]),2,24):=by kernel_rfl
theorem Tryz.Z5v:(Tryz.prog.info? 106).map (fun i=>(i.zero,i.size,i.bytes)) = some (some (.agg #[.string emp,.int .i64 0,.slice none 0 0]),3,48):=by kernel_rfl
theorem Tryz.Z5z:(Tryz.prog.info? 114).map (fun i=>(i.zero,i.size,i.bytes)) = some (some (.agg #[.string emp,.int .i64 0,.slice none 0 0]),3,48):=by kernel_rfl
theorem X2l {K:Value -> World -> Prop} {o:Oper} {a:Act} {w:World} (x:Operand) (t e:TypeId) (ho:o.op = .makeSlice t x x) (i:TypeInfo) (z:Value) (k bytes:Nat) (ht:Tryz.prog.underlying t = some (.slice e)) (hi:Tryz.prog.info? e = some i) (hz:i.zero = some z) (hs:i.size = k) (hby:i.bytes = bytes)
    (n:Nat) (hx:a.eval x = .int .i64 n) (hn:n <= 1000) (hb:bytes <= 1000)
    (h:K (.slice (some ⟨w.heap.size,0,none⟩) n n) (w.alloc (.cells (madeCells z.cells (n * k)) e))):gives Tryz.prog K ((execOp a.eval o).run Tryz.prog w):=by
 have hnb:bytes * n <= 1000 * 1000:=Nat.mul_le_mul hb hn;have hr:=run_make (P:=Tryz.prog) w t e i z ht hi hz .i64 .i64 n n (by omega) (Int.le_refl _) (by rw [hby]; have:((bytes * n:Nat):Int) <= 1000000:=(by omega); rw [Int.natCast_mul] at this; omega) (by omega)
 simp only [Int.toNat_natCast,hs] at hr;unfold execOp;simp only [ho,hx,Sem.run_bind,hr,Result.andThen_ok,Sem.run_pure];exact h
theorem Y1d (cur:Array Value) (vs:List Value) (h:vs.length = cur.size):Q1t cur 0 vs = vs.toArray:=by
 apply Array.ext_getElem?
 intro j;rw [Q7h _ _ _ _ (by omega)]
 by_cases hj:j < vs.length
 . rw [if_pos (by omega),Nat.sub_zero,List.getElem?_toArray]
 . rw [if_neg (by omega),Array.getElem?_eq_none (show cur.size <= j by omega)]
   symm
   rw [Array.getElem?_eq_none];rw [List.size_toArray]; omega
theorem Y6h {w:World} {A:Option Addr} {n cap:Nat} {l:List Basic} (h:Q3m w (.slice A n cap) l):∀ (j:Nat) (v:Value),((List.range l.length).flatMap fun i=>enc2 (bName l i,Q1b l i))[j]? = some v -> ∃ b off,A = some ⟨b,off,none⟩ /\ w.cell? ⟨b,off + j,none⟩ = some v:=by
 obtain ⟨A',cap',he,hl,hcap,hc⟩:=h.opened;cases he;intro j v hv;have hlen:((List.range l.length).flatMap fun i=>enc2 (bName l i,Q1b l i)).length = l.length * 2:=by
  have:=Q1d Q3g l.length (fun i=>(bName l i,Q1b l i));unfold Q1c at this
  simpa using this
 have hj:j < l.length * 2:=by
  rw [<- hlen];exact (List.getElem?_eq_some_iff.1 hv).1
 have e:j = j / 2 * 2 + j % 2:=by omega
 obtain ⟨b,off,rfl,_,c0,c1,_⟩:=hc (j / 2) (by omega)
 refine ⟨b,off,rfl,?_⟩;have hg:=Q2h Q3g (fun i=>(bName l i,Q1b l i)) (n:=l.length) (i:=j / 2) (j:=j % 2) (by omega) (by omega)
 unfold Q1c at hg;rw [List.getElem?_toArray,<- e,hv] at hg
 rcases Nat.mod_two_eq_zero_or_one j with h0 | h0
 . rw [h0] at hg
   have:j = j / 2 * 2:=by omega
   rw [this,c0]; exact hg.symm
 . rw [h0] at hg
   have:off + j = off + j / 2 * 2 + 1:=by omega
   rw [this,c1]; exact hg.symm
theorem X5z {P:Program} {w:World} {ops:Array Oper} {rest:List Oper} {o:Oper} {a:Act} {Q:Exit -> Act -> World -> Prop} (hgd:o.guard = none) (d s:Operand) (dT sT:TypeId) (ho:o.op = .call { callee:=.builtin .copy,args:=#[d,s],argTypes:=#[dT,sT] })
    (elem:TypeId) (hu:P.underlying dT = some (.slice elem)) {sz:Nat} (hs:∀ w,(sizeOf elem).run P w = .ok sz w) {n dcap scap:Nat} {g:Nat} {sp:Option Addr} (hd:a.eval d = .slice (some ⟨g,0,none⟩) n dcap) (hsv:a.eval s = .slice sp n scap)
    {T:TypeId} {cur:Array Value} (hb:Blk w g T cur) (cs:List Value) (hlen:cs.length = n * sz) (hsrc:∀ j v,cs[j]? = some v -> ∃ b off,sp = some ⟨b,off,none⟩ /\ w.cell? ⟨b,off + j,none⟩ = some v) (hfit:cs.length <= cur.size) (h1:∀ v ∈ cs,v.oneCell' = true)
    (hK:∀ w',Blk w' g T (Q1t cur 0 cs) -> (∀ n,n <= g -> Below n w w') -> (∀ k,k ≠ g -> w'.heap[k]? = w.heap[k]?) -> wpList P ops Q rest (a.put o.dst (goInt n)) w'):wpList P ops Q (o :: rest) a w:=by
 refine wpList_plain hgd fun K' hK'=>?_;unfold Oper.wp;obtain ⟨w',hr,hb',hl,hoo⟩:=Y2i (P:=P) dT sT o.type elem hu hs n dcap scap hb sp cs hlen hsrc hfit h1;have hr2:(execOp a.eval o).run P w = .ok (.value (goInt n)) w':=by
  unfold execOp;simp only [ho,resolve,invoke,builtin,Sem.run_bind,Sem.run_pure,Result.andThen_ok,List.map_toArray,List.map_cons,List.map_nil,hd,hsv,hr]
 rw [hr2];exact hK' _ _ (hK w' hb' hl hoo)
end Go.Proofs
