/- A copied tree read as a tree; contract: Without. Contract: Dual. Contracts: mapped(numbers, strconv.Itoa); line. Contract of the reference's Text, below 100. -/
import Derived.Test.YtghcnlbkghaaeaaDoorPv15
import Derived.Test.YtghcnlbkghaaeaaDoorPv14
import Derived.Lib.ItoaNum
import Derived.Laws.IdiomStrings
set_option maxRecDepth 1000000
set_option maxHeartbeats 64000000
set_option linter.unusedVariables false
set_option linter.unusedSimpArgs false
set_option linter.constructorNameAsVariable false
namespace Go.Tw
open Go.RowKit Go.Flow
theorem Q0y {P:Program} {w:World} {ops:Array Oper} {rest:List Oper} {o:Oper} {a:Act} {Q:Exit -> Act -> World -> Prop} (hg:o.guard = none) (p x:Operand) (T:TypeId) (hop:o.op = .store T p x)
    (hT:∀ w,(sizeOf T).run P w = .ok 1 w) {g k:Nat} (hp:a.eval p = .pointer (some ⟨g,k,none⟩)) {u:Value} (hx:a.eval x = u) (hu:u.cells = #[u]) (h1:u.oneCell' = true) {BT:TypeId} {cs:Array Value} (hb:Blk w g BT cs) (hk:k < cs.size)
    (hK:∀ w',Blk w' g BT (cs.setIfInBounds k u) -> (∀ n,n <= g -> Below n w w') -> (∀ k,k ≠ g -> w'.heap[k]? = w.heap[k]?) -> wpList P ops Q rest (a.put o.dst undef) w'):wpList P ops Q (o :: rest) a w:=by
 refine wpList_plain hg fun K' hK'=>?_;unfold Oper.wp;have h0:=hb.cell k;rw [Array.getElem?_eq_getElem hk] at h0;have hs:(storeVar T ⟨g,k,none⟩ u).run P w = .ok () (w.setCell ⟨g,k,none⟩ u):=by
  unfold storeVar;simp only [Sem.run_bind,hT,Result.andThen_ok,hu];rw [if_neg (by simp)]
  simp only [storeCells,Sem.run_bind,Sem.run_pure];have ea:(⟨g,k,none⟩:Addr).add 0 = ⟨g,k,none⟩:=by rw [addr_add,Nat.add_zero]
  rw [ea,run_store P w _ u _ h1];simp only [h0,hb.frozen k,Bool.false_eq_true,if_false,Result.andThen_ok]
 have hr2:(execOp a.eval o).run P w = .ok .skip (w.setCell ⟨g,k,none⟩ u):=by
  unfold execOp;simp only [hop,hp,hx,Instr.storeAt,Instr.sureAddr,Sem.run_bind,Sem.run_pure,Result.andThen_ok,hs]
 rw [hr2];exact hK' _ _ (hK _ (hb.set k u) (fun n hn=>(Below.refl n w).setCell (p:=⟨g,k,none⟩) hn u) (fun k' hk'=>Below.heap_setCell _ _ _ _ hk'))
end Go.Tw
namespace Go.Proofs
open Go.RowKit Go.Tw Go.Flow
theorem Y1y.ext {w w':World} {base:Nat} {t:Tree} {gb gc gg:Nat} {mc mg:Nat -> Value} (h:Y1y w base t gb gc gg mc mg) (hx:Ext w w'):Y1y w' base t gb gc gg mc mg :=
 ⟨h.bas.ext hx,h.cau.ext hx,h.gat.ext hx,fun i hi=>(h.mem i hi).below hx,fun i hi=>(h.inp i hi).below hx,h.b,h.c,h.g⟩
theorem Q0s {w w':World} {a g:Nat} {T:TypeId} {cs:Array Value} (h:Blk w a T cs) (hne:a ≠ g) (ho:∀ b,b < w.heap.size -> b ≠ g -> w'.heap[b]? = w.heap[b]?):Blk w' a T cs:=by
 have hl:=h.lt;unfold Blk at *; rw [ho a hl hne]; exact h
theorem Q2z {w w':World} {v:Value} {l:List Int} {g:Nat} {T:TypeId} {cs:Array Value} (h:Q0f w 0 3 (.int .i64) v l) (hb:Blk w g T cs) (hT:T ≠ 3) (ho:∀ b,b < w.heap.size -> b ≠ g -> w'.heap[b]? = w.heap[b]?):Q0f w' 0 3 (.int .i64) v l :=
 Q9v h fun b hv hl=>ho b hl fun e=>Q7m hT h hb (by rw [hv,e])
theorem Q7v {α β:Type} {enc:α -> List Value} {k:Nat} (hk:∀ x,(enc x).length = k) {R:World -> (Nat -> Value) -> β -> Prop} {w:World} {g n cap:Nat} {T:TypeId} {f:Nat -> α} {l:List β} (hb:Blk w g T (Q0h enc n f)) (hl:l.length <= n) (hl2:l.length <= 17592186043904) (hcap:l.length <= cap)
    (hR:∀ c j (h:j < l.length),(∀ i,i < k -> (enc (f j))[i]? = some (c i)) -> R w c l[j]):Go.Tw.Rows k R w (.slice (some ⟨g,0,none⟩) l.length cap) l:=by
 have hs:=Q0i hk n f;refine ⟨fun j=>((Q0h enc n f)[j]?).getD undef,⟨_,_,rfl,hl2,hcap,fun j hj=>⟨g,0,rfl,?_⟩⟩,fun j hj=>hR _ _ hj fun i hi=>?_⟩
 . rw [hb.cell,Nat.zero_add]
   have:j < (Q0h enc n f).size:=by rw [hs]; exact Nat.lt_of_lt_of_le hj (Nat.mul_le_mul_right k hl)
   simp only [Array.getElem?_eq_getElem this,Option.getD_some]
 . show _ = some (((Q0h enc n f)[j * k + i]?).getD undef)
   rw [Q0x hk _ (Nat.lt_of_lt_of_le hj hl) hi];have:i < (enc (f j)).length:=by rw [hk]; exact hi
   simp only [List.getElem?_eq_getElem this,Option.getD_some]
theorem getD_at {α:Type} [Inhabited α] {l:List α} {k:Nat} (h:k < l.length):l.getD k default = l[k]:=by simp [h]
theorem X2j {w:World} {g n:Nat} {T:TypeId} {f:Nat -> ByteArray × Int} {l:List Basic} (hb:Blk w g T (Q0h enc2 n f)) (hl:l.length <= n) (hl2:l.length <= 1000) (hf:∀ i,i < l.length -> f i = (bName l i,bChance l i) /\ Short (bName l i)) :
    IsBasics w (.slice (some ⟨g,0,none⟩) l.length n) l :=
 Q7v Q0u hb hl (by omega) hl fun c j h hc=>by
  obtain ⟨h1,h2⟩:=hf j h;have e:l.getD j default = l[j]:=getD_at h;have c0:=hc 0 (by omega)
  have c1:=hc 1 (by omega)
  rw [h1] at c0 c1;unfold bName bChance at *;rw [e] at c0 c1 h2;simp only [enc2,List.getElem?_cons_zero,List.getElem?_cons_succ,Option.some.injEq] at c0 c1;exact ⟨c0.symm,c1.symm,h2⟩
theorem X2i {w:World} {g n:Nat} {T:TypeId} {f:Nat -> ByteArray × Int × Value} {l:List Cause} (hb:Blk w g T (Q0h enc3 n f)) (hl:l.length <= n) (hl2:l.length <= 1000) (hf:∀ i,i < l.length -> ∃ m,f i = (cName l i,cChance l i,m) /\ IsInts w m (cMembers l i) /\ Short (cName l i)) :
    IsCauses w (.slice (some ⟨g,0,none⟩) l.length n) l :=
 Q7v Q0t hb hl (by omega) hl fun c j h hc=>by
  obtain ⟨m,h1,hm,h2⟩:=hf j h;have e:l.getD j default = l[j]:=getD_at h;have c0:=hc 0 (by omega)
  have c1:=hc 1 (by omega)
  have c2:=hc 2 (by omega)
  rw [h1] at c0 c1 c2;unfold cName cChance cMembers at *;rw [e] at c0 c1 c2 h2 hm;simp only [enc3,List.getElem?_cons_zero,List.getElem?_cons_succ,Option.some.injEq] at c0 c1 c2;exact ⟨c0.symm,c1.symm,c2 ▸ hm,h2⟩
theorem Q8m {w:World} {g n:Nat} {T:TypeId} {f:Nat -> ByteArray × Int × Value} {l:List Gate} (hb:Blk w g T (Q0h enc3 n f)) (hl:l.length <= n) (hl2:l.length <= 1000) (hf:∀ i,i < l.length -> ∃ m,f i = (gKind l i,gNeed l i,m) /\ IsInts w m (gInputs l i) /\ Short (gKind l i)) :
    IsGates w (.slice (some ⟨g,0,none⟩) l.length n) l :=
 Q7v Q0t hb hl (by omega) hl fun c j h hc=>by
  obtain ⟨m,h1,hm,h2⟩:=hf j h;have e:l.getD j default = l[j]:=getD_at h;have c0:=hc 0 (by omega)
  have c1:=hc 1 (by omega)
  have c2:=hc 2 (by omega)
  rw [h1] at c0 c1 c2;unfold gKind gNeed gInputs at *;rw [e] at c0 c1 c2 h2 hm;simp only [enc3,List.getElem?_cons_zero,List.getElem?_cons_succ,Option.some.injEq] at c0 c1 c2;exact ⟨c0.symm,c1.symm,c2 ▸ hm,h2⟩
theorem _root_.Go.Tw.IsBasics.short {w:World} {v:Value} {l:List Basic} (h:IsBasics w v l) {k:Nat} (hk:k < l.length):Short (bName l k):=by
 obtain ⟨_,_,_,_,_,hc⟩:=h.opened;obtain ⟨_,_,_,_,_,_,hs⟩:=hc k hk;exact hs
theorem _root_.Go.Tw.IsCauses.short {w:World} {v:Value} {l:List Cause} (h:IsCauses w v l) {k:Nat} (hk:k < l.length):Short (cName l k) /\ (cMembers l k).length <= 17592186043904:=by
 obtain ⟨_,_,_,_,_,hc⟩:=h.opened;obtain ⟨_,_,_,_,_,_,_,_,hm,hs⟩:=hc k hk;obtain ⟨_,_,_,hl,_⟩:=hm.opened;exact ⟨hs,hl⟩
theorem _root_.Go.Tw.IsGates.short {w:World} {v:Value} {l:List Gate} (h:IsGates w v l) {k:Nat} (hk:k < l.length):Short (gKind l k) /\ (gInputs l k).length <= 17592186043904:=by
 obtain ⟨_,_,_,_,_,hc⟩:=h.opened;obtain ⟨_,_,_,_,_,_,_,_,hm,hs⟩:=hc k hk;obtain ⟨_,_,_,hl,_⟩:=hm.opened;exact ⟨hs,hl⟩
def Y2u:Value:=.agg #[.slice none 0 0,.slice none 0 0,.slice none 0 0]
theorem X9b (w:World):IsTree w Y2u ⟨[],[],[]⟩:=⟨_,_,_,rfl,⟨Go.Tw.Rows.nil _ _ _,Go.Tw.Rows.nil _ _ _,Go.Tw.Rows.nil _ _ _⟩⟩
def Q5b (T:TypeId) (w:World) (v:Value) (t:Tree):Prop:=∀ wm,Ext w wm -> ∀ w',(w' = wm ∨ ∃ g cs,Blk wm g T cs /\ ∀ k,k ≠ g -> w'.heap[k]? = wm.heap[k]?) -> IsTree w' v t
theorem Q5b.ext {T:TypeId} {w w':World} {v:Value} {t:Tree} (h:Q5b T w v t) (hx:Ext w w'):Q5b T w' v t:=fun wm hm=>h wm (hx.trans hm)
theorem Q5b.is {T:TypeId} {w:World} {v:Value} {t:Tree} (h:Q5b T w v t):IsTree w v t:=h w (Ext.refl _) w (.inl rfl)
end Go.Proofs
namespace Go.Proofs
open Go.RowKit Go.Tw Go.Flow
theorem Tryd.Y1w (w:World):(sizeOf 3).run Tryd.prog w = .ok 1 w:=by kernel_rfl
theorem Tryd.Y2a (w:World):(sizeOf 9).run Tryd.prog w = .ok 1 w:=by kernel_rfl
theorem X3c (f f':Nat -> ByteArray × Int) {n i r:Nat} {x:Value} (hi:i < n) (hr:r < 2) (h1:enc2 (f' i) = (enc2 (f i)).set r x) (h2:∀ j,j ≠ i -> f' j = f j):(Q0h enc2 n f).setIfInBounds (i * 2 + r) x = Q0h enc2 n f':=by
 apply Array.ext_getElem?
 intro j;have hs:=Q0i Q0u n f;have hs':=Q0i Q0u n f';rw [Array.getElem?_setIfInBounds]
 by_cases hj:j < n * 2
 . have e:j = j / 2 * 2 + j % 2:=by omega
   by_cases hji:i * 2 + r = j
   . rw [if_pos hji,if_pos (by omega)]
     conv=>rhs; rw [e]
     rw [Q0x Q0u _ (by omega) (by omega),show j / 2 = i by omega,show j % 2 = r by omega,h1,List.getElem?_set_self (by rw [Q0u]; exact hr)]
   . rw [if_neg hji]
     conv=>lhs; rw [e]
     conv=>rhs; rw [e]
     rw [Q0x Q0u _ (by omega) (by omega),Q0x Q0u _ (by omega) (by omega)]
     by_cases hq:j / 2 = i
     . rw [hq,h1,List.getElem?_set_ne (by omega)]
     . rw [h2 _ hq]
 . rw [if_neg (by omega),Array.getElem?_eq_none (by omega),Array.getElem?_eq_none (by omega)]
theorem Q4p (f f':Nat -> ByteArray × Int × Value) {n i r:Nat} {x:Value} (hi:i < n) (hr:r < 3) (h1:enc3 (f' i) = (enc3 (f i)).set r x) (h2:∀ j,j ≠ i -> f' j = f j):(Q0h enc3 n f).setIfInBounds (i * 3 + r) x = Q0h enc3 n f':=by
 apply Array.ext_getElem?
 intro j;have hs:=Q0i Q0t n f;have hs':=Q0i Q0t n f';rw [Array.getElem?_setIfInBounds]
 by_cases hj:j < n * 3
 . have e:j = j / 3 * 3 + j % 3:=by omega
   by_cases hji:i * 3 + r = j
   . rw [if_pos hji,if_pos (by omega)]
     conv=>rhs; rw [e]
     rw [Q0x Q0t _ (by omega) (by omega),show j / 3 = i by omega,show j % 3 = r by omega,h1,List.getElem?_set_self (by rw [Q0t]; exact hr)]
   . rw [if_neg hji]
     conv=>lhs; rw [e]
     conv=>rhs; rw [e]
     rw [Q0x Q0t _ (by omega) (by omega),Q0x Q0t _ (by omega) (by omega)]
     by_cases hq:j / 3 = i
     . rw [hq,h1,List.getElem?_set_ne (by omega)]
     . rw [h2 _ hq]
 . rw [if_neg (by omega),Array.getElem?_eq_none (by omega),Array.getElem?_eq_none (by omega)]
theorem Valid.need {t:Tree} (h:Valid t) {k:Nat} (hk:k < t.gates.length):(gInputs t.gates k).length <= 12 /\ 0 <= gNeed t.gates k /\ gNeed t.gates k <= 12:=by
 have:=h.gate k hk;unfold Tree.gateErrAt gateErr at this;rw [Q0n] at this;have h1:=this (if 12 < (gInputs t.gates k).length then 5 else 0) (by simp)
 have h2:=this (needErr (gKind t.gates k) (gNeed t.gates k) (gInputs t.gates k).length) (by simp)
 have h3:(gInputs t.gates k).length <= 12:=by
  split at h1
  . cases h1
  . omega
 refine ⟨h3,?_⟩;unfold needErr rangeErr at h2
 split at h2
 . split at h2
   . cases h2
   . omega
 . split at h2
   . cases h2
   . omega
def X3d (b:Basic):Basic:=⟨b.name,16 - b.chance⟩
def Q4m (g:Gate):Gate:=if g.kind = sAnd then ⟨sOr,g.need,g.inputs⟩ else if g.kind = sOr then ⟨sAnd,g.need,g.inputs⟩ else ⟨g.kind,(g.inputs.length:Int) + 1 - g.need,g.inputs⟩
def Q4q (t:Tree):Int:=firstErr [t.err,Q0c (decide (0 < t.causes.length)) 19]
def X3k (t:Tree):Tree:=if Q4q t = 0 then ⟨t.basics.map X3d,t.causes,t.gates.map Q4m⟩ else ⟨[],[],[]⟩
def bD (t:Tree) (k i:Nat):ByteArray × Int:=if i < k then (bName t.basics i,16 - bChance t.basics i) else bF t i
def gDk (t:Tree) (i:Nat):ByteArray × Int:=let g:=Q4m (t.gates.getD i default); (g.kind,g.need)
def gD (t:Tree) (mg:Nat -> Value) (k i:Nat):ByteArray × Int × Value:=if i < k then ((gDk t i).1,(gDk t i).2,mg i) else gF t mg i
theorem Y0x (t:Tree) (k:Nat):enc2 (bD t (k + 1) k) = (enc2 (bD t k k)).set 1 (.int .i64 (16 - bChance t.basics k)):=by
 unfold bD;rw [if_pos (by omega),if_neg (by omega)]; rfl
theorem X8w (t:Tree) (k j:Nat) (h:j ≠ k):bD t (k + 1) j = bD t k j:=by
 unfold bD
 by_cases hj:j < k
 . rw [if_pos hj,if_pos (by omega)]
 . rw [if_neg hj,if_neg (by omega)]
theorem Q9s (t:Tree) (mg:Nat -> Value) (k j:Nat) (h:j ≠ k):gD t mg (k + 1) j = gD t mg k j:=by
 unfold gD
 by_cases hj:j < k
 . rw [if_pos hj,if_pos (by omega)]
 . rw [if_neg hj,if_neg (by omega)]
theorem X7a {t:Tree} {k:Nat} (h:gKind t.gates k = sAnd):gDk t k = (sOr,gNeed t.gates k):=by
 unfold gKind at h;unfold gDk Q4m gNeed;simp only [h,if_true]
theorem Y1r:¬ sOr = sAnd:=by decide
theorem Y0l {t:Tree} {k:Nat} (h:gKind t.gates k = sOr):gDk t k = (sAnd,gNeed t.gates k):=by
 unfold gKind at h;unfold gDk Q4m gNeed;simp only [h,if_neg Y1r,if_true]
theorem X3p {t:Tree} {k:Nat} (h:¬ gKind t.gates k = sAnd) (h2:¬ gKind t.gates k = sOr):gDk t k = (gKind t.gates k,((gInputs t.gates k).length:Int) + 1 - gNeed t.gates k):=by
 unfold gKind at *;unfold gDk Q4m gNeed gInputs;simp only [if_neg h,if_neg h2]
theorem X3i (t:Tree) (mg:Nat -> Value) (k r:Nat) (x:Value) (h:enc3 ((gDk t k).1,(gDk t k).2,mg k) = (enc3 (gKind t.gates k,gNeed t.gates k,mg k)).set r x):enc3 (gD t mg (k + 1) k) = (enc3 (gD t mg k k)).set r x:=by
 unfold gD;rw [if_pos (by omega),if_neg (by omega)]; exact h
theorem X5u {t:Tree} {i:Nat} (hi:i < t.basics.length):bName (t.basics.map X3d) i = bName t.basics i /\ bChance (t.basics.map X3d) i = 16 - bChance t.basics i:=by
 unfold bName bChance;rw [getD_at (by rw [List.length_map]; exact hi),getD_at hi,List.getElem_map]
 exact ⟨rfl,rfl⟩
theorem X7m {t:Tree} {i:Nat} (hi:i < t.gates.length):gKind (t.gates.map Q4m) i = (gDk t i).1 /\ gNeed (t.gates.map Q4m) i = (gDk t i).2 /\ gInputs (t.gates.map Q4m) i = gInputs t.gates i:=by
 unfold gKind gNeed gInputs gDk;rw [getD_at (by rw [List.length_map]; exact hi),getD_at hi,List.getElem_map]
 refine ⟨rfl,rfl,?_⟩;unfold Q4m
 split
 . rfl
 . split <;> rfl
theorem X6p {t:Tree} {i:Nat} (h:Short (gKind t.gates i)):Short (gDk t i).1:=by
 by_cases h1:gKind t.gates i = sAnd
 . rw [X7a h1]; show sOr.size <= _; decide
 . by_cases h2:gKind t.gates i = sOr
   . rw [Y0l h2]; show sAnd.size <= _; decide
   . rw [X3p h1 h2]; exact h
theorem X7u (w:World) (v:Value) (t:Tree) (ht:IsTree w v t) :
    Calls Tryd.prog 22 #[v] w fun e w'=>∃ u,e = .returned (.tuple #[u,.int .i64 (Q4q t)]) /\ IsTree w' u (X3k t) /\ Ext w w':=by
 obtain ⟨E0,hE0⟩:∃ E,t.err = E:=⟨_,rfl⟩;obtain ⟨q,hq⟩:∃ q,decide (0 < t.causes.length) = q:=⟨_,rfl⟩;obtain ⟨E,hE⟩:∃ E,firstErr [E0,Q0c q 19] = E:=⟨_,rfl⟩;have HFIN:Hid (Q4q t = E):=Lib.hid (by unfold Q4q; rw [hE0,hq]; exact hE)
 have HE:Hid (∀ (w':World) (u:Value),IsInts w' u [E0,Q0c q 19] -> Calls Tryd.prog 71 #[u] w' fun e w''=>e = .returned (.int .i64 E) /\ w' = w''):=by
  exact (by intro w' u h; rw [<- hE]; exact first_any _ _ _ h:∀ (w':World) (u:Value),IsInts w' u [E0,Q0c q 19] -> Calls Tryd.prog 71 #[u] w' fun e w''=>e = .returned (.int .i64 E) /\ w' = w'')
 have HC:Hid (∀ (w':World) (v:Value),IsTree w' v t -> Calls Tryd.prog 68 #[v] w' fun e w''=>e = .returned (.int .i64 E0) /\ Ext w' w''):=by
  exact (by intro w' v h; rw [<- hE0]; exact Q2d _ _ _ h:∀ (w':World) (v:Value),IsTree w' v t -> Calls Tryd.prog 68 #[v] w' fun e w''=>e = .returned (.int .i64 E0) /\ Ext w' w'')
 have HW:Hid (∀ w',Calls Tryd.prog 72 #[.bool (decide (0 < t.causes.length)),.int .i64 19] w' fun e w''=>e = .returned (.int .i64 (Q0c q 19)) /\ w' = w''):=by
  exact (by intro w'; rw [hq]; exact Q4g _ _ _:∀ w',Calls Tryd.prog 72 #[.bool (decide (0 < t.causes.length)),.int .i64 19] w' fun e w''=>e = .returned (.int .i64 (Q0c q 19)) /\ w' = w'')
 have HEQ:=Lib.hid hE0;have HEE:=Lib.hid hE;have HQ:=Lib.hid hq;clear hE0 hE hq;obtain ⟨a,b,c,rfl,h3⟩:=ht;obtain ⟨A,capa,rfl,hl1,hcap1,_⟩:=h3.basics.opened;obtain ⟨B,capb,rfl,hl2,hcap2,_⟩:=h3.causes.opened;obtain ⟨G,capg,rfl,hl3,hcap3,_⟩:=h3.gates.opened;have HT0:=Lib.hid h3;clear h3;go_enter Tryd.func22,Tryd.ntmps22;go_wp2_with fail;change Code.wp _ _ _ _ ((w.alloc (.cells #[.slice A t.basics.length capa,.slice B t.causes.length capb,.slice G t.gates.length capg] 71)).alloc (.cells #[.slice none 0 0,.slice none 0 0,.slice none 0 0] 71));obtain ⟨W,hWW,k0,k1,HXW,eW⟩:=X4g w 71 #[.slice A t.basics.length capa,.slice B t.causes.length capb,.slice G t.gates.length capg] 71 #[.slice none 0 0,.slice none 0 0,.slice none 0 0];rw [hWW];clear hWW;have HT:=Lib.hid (HT0.out.ext HXW.out);have K0:=Lib.hid k0;have hdr:=(Ext.refl W).drew;refine Flow.X3r [.w,.w,.p,.w,.p,.p,.w,.w,.w,.p] [0,1,2,3,4,5,6,7,8,9] [[],[0],[],[2],[3],[4],[1,5],[1,6],[6,7],[0,1,2,3,4,5,6,7,8]]
  [.c 0 (.agg #[.slice A t.basics.length capa,.slice B t.causes.length capb,.slice G t.gates.length capg]),.c 1 (.int .i64 E0),.c 2 (.pointer (some ⟨w.heap.size,1,none⟩)),.c 3 (.slice B t.causes.length capb),.c 4 (.int .i64 ((t.causes.length:Nat):Int)),.c 5 (.bool (decide (0 < t.causes.length))),.c 6 (.int .i64 (Q0c q 19)),⟨fun v wz=>IsInts wz (v 7) [E0,Q0c q 19],fun _ _ _ hx h=>h.ext hx⟩,.c 8 (.int .i64 E),.c 9 (.int .i64 E)]
  (by kernel_rfl) rfl (by kernel_rfl) ⟨?g0,?g1,?g2,?g3,?g4,?g5,?g6,?g7,?g8,?g9,trivial⟩ ?post
 case g0=>
  intro v w1 hx;intro bb hbb;intro K hK;have o1:bb.eval (.tmp 1) = .pointer (some ⟨w.heap.size,0,none⟩):=by rw [hbb]; dsimp only; (try simp (discharger:=decide) only [eval_put_ne]); rfl
  exact Q1c (.tmp 1) _ rfl Tryd.Q3h Tryd.Q0z o1 (K0.out.ext (hdr.trans hx)) rfl (hK _ _ (Ext.refl _) rfl)
 case g1=>
  intro v w1 hx;(repeat intro (zq:v _ = _));intro bb hbb;subst hbb;intro K hK;go_simp;refine Q0b (HC.out w1 _ ⟨_,_,_,rfl,HT.out.ext (hdr.trans hx)⟩) ?_;rintro e w2 ⟨rfl,hx2⟩;exact ⟨_,rfl,hK _ _ hx2 rfl⟩
 case g2=>
  intro v w1 hx;intro bb hbb;subst hbb;refine ⟨_,fun w=>?_,rfl⟩;go_simp
 case g3=>
  intro v w1 hx;(repeat intro (zq:v _ = _));intro bb hbb;subst hbb;have n0:w1.cell? ⟨w.heap.size,1,none⟩ = some (.slice B t.causes.length capb):=(K0.out.ext (hdr.trans hx)).cell 1;intro K hK;go_simp;exact hK _ _ (Ext.refl _) rfl
 case g4 | g5=>
  intro v w1 hx;(repeat intro (zq:v _ = _));intro bb hbb;subst hbb;refine ⟨_,fun w=>?_,rfl⟩;go_simp
 case g6=>
  intro v w1 hx;(repeat intro (zq:v _ = _));intro bb hbb;subst hbb;intro K hK;go_simp;refine Q0b (HW.out _) ?_;rintro e w2 ⟨rfl,rfl⟩;exact ⟨_,rfl,hK _ _ (Ext.refl _) rfl⟩
 case g7=>
  intro v w1 hx;(repeat intro (zq:v _ = _));intro bb hbb;subst hbb;intro K hK;go_simp;exact hK _ _ (Ext.box _ _) (Q2k (l:=[E0,Q0c q 19]) (by simp))
 case g8=>
  intro v w1 hx (q6:v 6 = _) (q7:IsInts w1 (v 7) [E0,Q0c q 19]);intro bb hbb;subst hbb;intro K hK;go_simp;refine Q0b (HE.out _ _ q7) ?_;rintro e w2 ⟨rfl,rfl⟩;exact ⟨_,rfl,hK _ _ (Ext.refl _) rfl⟩
 case g9=>
  intro v w1 hx (q0:v 0 = _) (q1:v 1 = _) (q2:v 2 = _) (q3:v 3 = _) (q4:v 4 = _) (q5:v 5 = _) (q6:v 6 = _) _ (q8:v 8 = _);intro bb hbb;subst hbb;refine ⟨_,fun w=>?_,rfl⟩;go_simp
 case post =>
  intro v w1 hx (q0:v 0 = _) (q1:v 1 = _) (q2:v 2 = _) (q3:v 3 = _) (q4:v 4 = _) (q5:v 5 = _) (q6:v 6 = _) (q7:IsInts w1 (v 7) [E0,Q0c q 19]) (q8:v 8 = _) (q9:v 9 = _);simp only [Flow.All,Flow.acts,Act.put];go_simp;obtain ⟨wq,hwq⟩:∃ x,x = w1:=⟨_,rfl⟩;subst hwq;have hx1:=hdr.trans hx;have HX1:=Lib.hid (HXW.out.trans hx1);have HK0:=Lib.hid (K0.out.ext hx1);have HT1:=Lib.hid (HT.out.ext hx1);have hbr:=k1.ext hx1;clear hx1 hx hdr k0 k1 K0 q0 q1 q2 q3 q4 q5 q6 q7 q8 HC HW HE HQ
  by_cases hE0:E = 0
  . have hne:(E != 0) = false:=by simp [hE0]
    have HDT:Hid (X3k t = ⟨t.basics.map X3d,t.causes,t.gates.map Q4m⟩):=Lib.hid (by unfold X3k; rw [if_pos (by rw [HFIN.out,hE0])])
    have hz:E0 = 0:=by
     have h0:=HEE.out.trans hE0;rw [Q0n] at h0;exact h0 _ (by simp)
    have HV:=Lib.hid (Valid.of (HEQ.out.trans hz));have HE0:Hid (Q4q t = 0):=Lib.hid (HFIN.out.trans hE0);have HFIT:=Lib.hid HV.out.fit;clear hE0 hz;go_wp2_with (refine Q0q rfl _ 71 rfl Tryd.Q3h Tryd.Q0z rfl HK0.out rfl ?_);refine (X6d _ _ t HFIT.out.nb HFIT.out.nc HFIT.out.ng ⟨_,_,_,rfl,HT1.out⟩).mono ?_;rintro e w4 ⟨gb,gc,gg,mc,mg,rfl,hown,hx4⟩;have HBR:=Lib.hid (hbr.ext hx4);have HX4:=Lib.hid (HX1.out.trans hx4);have HX14:=Lib.hid hx4;have HOWN:=Lib.hid hown;clear hown hx4 hbr;go_wp2_with (refine Q0j rfl _ _ 71 rfl Tryd.Q0z rfl rfl (Blk.made _ _ _) rfl rfl ?_ ?_; (focus (intro u hu; simp only [List.mem_cons,List.not_mem_nil,or_false] at hu; rcases hu with rfl | rfl | rfl <;> rfl)); intro w5 hb5 hl5 ho5; refine halted ?_)
    have hx5:Ext w4 w5:=Below.trans (Ext.box w4 _) (hl5 _ (Nat.le_refl _));have HX5:=Lib.hid (HX14.out.trans hx5);have HXX5:=Lib.hid (HX4.out.trans hx5);have HOWN5:=Lib.hid (HOWN.out.ext hx5);have HK5:=Lib.hid (HK0.out.ext HX5.out);have HB5:=Lib.hid hb5;have HBR5:=Lib.hid (HBR.out.ext hx5);have hob:=HOWN.out.b;have hog:=HOWN.out.g;have hoc:=HOWN.out.c;have hwl:=HX1.out.size;have hgbl:=HOWN.out.bas.lt;have hl5s:=hb5.lt;have d0:=hb5.cell 0;simp only [Go.Tw.gA,Go.Tw.gB] at d0;have hnb:=HFIT.out.nb;clear hb5 hl5 ho5 hx5;unfold Q2v;go_wp2;have hbc:Q0h enc2 t.basics.length (bF t) = Q0h enc2 t.basics.length (bD t 0):=Q1h fun i _=>by simp [bD]
    have HOB:Hid (Blk w5 gb 134 (Q0h enc2 t.basics.length (bD t 0))):=Lib.hid (by rw [<- hbc]; exact HOWN5.out.bas)
    clear hbc d0
    go_loopw [27] (fun i wr=>∃ (k:Nat),k <= t.basics.length /\ i = .int .i64 k /\ Blk wr gb 134 (Q0h enc2 t.basics.length (bD t k)) /\ Ext wq wr /\ w5.heap.size <= wr.heap.size /\ ∀ b,b < w5.heap.size -> b ≠ gb -> wr.heap[b]? = w5.heap[b]?) (fun i _=>t.basics.length - (intOf i).toNat)
    case atStart=>exact ⟨0,Nat.zero_le _,rfl,HOB.out,HX5.out,Nat.le_refl _,fun _ _ _=>rfl⟩
    case round =>
     obtain ⟨k,hk,rfl,hbb,hbel,hsz,hoth⟩:=hrel
     by_cases hlt:k < t.basics.length
     . obtain ⟨_,_,he0,_,_,hcc⟩:=HT1.out.basics.opened
       cases he0;obtain ⟨b1,off,rfl,hb1,e0,e1,hsh⟩:=hcc k hlt;replace e1:=hbel.cell e1;obtain ⟨ch,hch⟩:∃ x,bChance t.basics k = x:=⟨_,rfl⟩;have hchb:0 <= ch /\ ch <= 16:=by
        have h:=HV.out.chance (i:=k) (by unfold Tree.size; omega)
        unfold Tree.chanceAt at h;rw [if_pos hlt,hch] at h;exact h
       rw [hch] at e1;have HCH:=Lib.hid hch;have HBB:=Lib.hid hbb;have HBEL:=Lib.hid hbel;have HOTH:=Lib.hid hoth;have HB6:=Lib.hid (Q0s HB5.out (Q0r HB5.out HOWN5.out.bas (by decide)) hoth)
       have HK6:=Lib.hid (Q0s HK5.out (Q0r HK5.out HOWN5.out.bas (by decide)) hoth)
       have hkI:(k:Int) < t.basics.length:=by omega
       have hdr:=(Ext.refl wr).drew;have hsub:IntKind.i64.wrap (16 - ch) = 16 - ch:=wrap_in (by omega) (by omega)
       clear hbb hbel hoth hcc hch e0;go_wp2;refine Flow.Q6x [.p,.w,.p,.p,.w,.p,.p,.p,.w,.p,.p,.p,.last] [0,1,2,3,4,5,6,7,8,9,10,11,12] [[],[0],[],[],[3],[],[3,4,5],[3,4,5,6],[3,4,5,6,7],[3,4,5,6,7,8],[0,1,2,3,4,5,6,7,8,9],[0,1,2,3,4,5,6,7,8,9,10],[0,1,2,3,4,5,6,7,8,9,10,11]] [12]
        [.c 0 (.pointer (some ⟨w4.heap.size,0,none⟩)),.c 1 (.slice (some ⟨gb,0,none⟩) t.basics.length t.basics.length),.c 2 (.int .i64 k),.c 3 (.pointer (some ⟨w.heap.size,0,none⟩)),.c 4 (.slice (some ⟨b1,off,none⟩) t.basics.length capa),.c 5 (.int .i64 k),.c 6 (.pointer (some ⟨b1,off + k * 2,none⟩)),.c 7 (.pointer (some ⟨b1,off + k * 2 + 1,none⟩)),.c 8 (.int .i64 ch),.c 9 (.int .i64 (16 - ch)),.c 10 (.pointer (some ⟨gb,k * 2,none⟩)),.c 11 (.pointer (some ⟨gb,k * 2 + 1,none⟩)),.none]
        [fun v w1 w2=>Blk w2 gb 134 ((Q0h enc2 t.basics.length (bD t k)).setIfInBounds (k * 2 + 1) (.int .i64 (16 - ch))) /\ (∀ n,n <= gb -> Below n w1 w2) /\ ∀ k,k ≠ gb -> w2.heap[k]? = w1.heap[k]?] (by kernel_rfl) rfl (by kernel_rfl) ⟨?g0,?g1,?g2,?g3,?g4,?g5,?g6,?g7,?g8,?g9,?g10,?g11,?g12,trivial⟩ ?post
       case g0 | g2 | g3 | g5=>
        intro v w1 hx;intro bb hbb;subst hbb;refine ⟨_,fun w=>?_,rfl⟩;go_simp
       case g1 | g4 | g8=>
        intro v w1 hx;(repeat intro (zq:v _ = _));intro bb hbb;subst hbb;have n0:w1.cell? ⟨w4.heap.size,0,none⟩ = some (.slice (some ⟨gb,0,none⟩) t.basics.length t.basics.length):=(HB6.out.ext (hdr.trans hx)).cell 0;have n1:w1.cell? ⟨w.heap.size,0,none⟩ = some (.slice (some ⟨b1,off,none⟩) t.basics.length capa):=(HK6.out.ext (hdr.trans hx)).cell 0;have n2:w1.cell? ⟨b1,off + k * 2 + 1,none⟩ = some (.int .i64 ch):=(hdr.trans hx).cell e1;intro K hK;go_simp;exact hK _ _ (Ext.refl _) rfl
       case g6 | g7 | g9 | g10 | g11=>
        intro v w1 hx;(repeat intro (zq:v _ = _));intro bb hbb;subst hbb;refine ⟨_,fun w=>?_,rfl⟩;go_simp
       case g12=>
        intro v w1 hx;(repeat intro (zq:v _ = _));intro wl hT;obtain rfl:wl = w1:=hT;intro bb hbb;intro K hK;have o1:bb.eval (.tmp 41) = .pointer (some ⟨gb,k * 2 + 1,none⟩):=by rw [hbb]; dsimp only; (try simp (discharger:=decide) only [eval_put_ne]); rw [Q0a (by simp only [size_put]; exact (by decide:41 < 81))]; assumption
        have o2:bb.eval (.tmp 39) = .int .i64 (16 - ch):=by rw [hbb]; dsimp only; (try simp (discharger:=decide) only [eval_put_ne]); rw [Q0a (by simp only [size_put]; exact (by decide:39 < 81))]; assumption
        have hbx:=HBB.out.ext (hdr.trans hx);refine Q2a (.tmp 41) (.tmp 39) rfl Tryd.Y1w o1 o2 rfl rfl hbx (by rw [Q0i Q0u]; omega) (fun vv=>hK _ _ ⟨hbx.set _ _,fun n hn=>(Below.refl n _).setCell (p:=⟨gb,k * 2 + 1,none⟩) hn _,fun k' hk'=>Below.heap_setCell _ _ _ _ hk'⟩)
       case post =>
        intro v w1 hx;(iterate 12 intro (zq:v _ = _));intro w2 hE;replace hE:(fun v w1 w2=>Blk w2 gb 134 ((Q0h enc2 t.basics.length (bD t k)).setIfInBounds (k * 2 + 1) (.int .i64 (16 - ch))) /\ (∀ n,n <= gb -> Below n w1 w2) /\ ∀ k,k ≠ gb -> w2.heap[k]? = w1.heap[k]?) v w1 w2:=hE;simp only [Flow.acts,Act.put];go_simp;obtain ⟨hb6,hlow,hot6⟩:=hE;have h1:=Y0x t k;rw [HCH.out] at h1;rw [X3c (bD t k) (bD t (k + 1)) hlt (by decide) h1 (fun j hj=>X8w t k j hj)] at hb6
        have hxx:=hdr.trans hx;have HBS:=Lib.hid hb6;have HE6:Hid (Ext wq w2):=Lib.hid (Below.trans (HBEL.out.trans hxx) (hlow wq.heap.size (by omega)))
        have HS6:Hid (w5.heap.size <= w2.heap.size):=Lib.hid (Nat.le_trans hsz (Nat.le_trans hxx.size (hlow 0 (Nat.zero_le _)).size));have HO6:Hid (∀ b,b < w5.heap.size -> b ≠ gb -> w2.heap[b]? = w5.heap[b]?):=Lib.hid (fun b hb hne=>(hot6 b hne).trans ((hxx.block b (Nat.lt_of_lt_of_le hb hsz)).trans (HOTH.out b hb hne)));clear hb6 hlow hot6 hxx hx hdr h1;(repeat clear zq);go_wp2;go_roundw
        case rel=>exact ⟨k + 1,by omega,by go_num,HBS.out,HE6.out,HS6.out,HO6.out⟩
        case measure=>simp [intOf]; omega
     . have e:k = t.basics.length:=by omega
       subst e;obtain ⟨w6,hw6⟩:∃ x,wr = x:=⟨_,rfl⟩;rw [hw6] at hbb hbel hsz hoth ⊢;clear hw6;have HBB6:=Lib.hid hbb;have HBEL6:=Lib.hid hbel;have HBC6:=Lib.hid (Q0s HOWN5.out.cau (Q0r HOWN5.out.cau HOWN5.out.bas (by decide)) hoth)
       have HBG6:=Lib.hid (Q0s HOWN5.out.gat (Q0r HOWN5.out.gat HOWN5.out.bas (by decide)) hoth)
       have HB6:=Lib.hid (Q0s HB5.out (Q0r HB5.out HOWN5.out.bas (by decide)) hoth)
       have HBR6:=Lib.hid (Q0s HBR5.out (Q0r HBR5.out HOWN5.out.bas (by decide)) hoth)
       have HK6:=Lib.hid (Q0s HK5.out (Q0r HK5.out HOWN5.out.bas (by decide)) hoth)
       have HM6:Hid (∀ i,i < t.causes.length -> Q0f w6 0 3 (.int .i64) (mc i) (cMembers t.causes i)):=Lib.hid (fun i hi=>Q2z (HOWN5.out.mem i hi) HOWN5.out.bas (by decide) hoth)
       have HI6:Hid (∀ i,i < t.gates.length -> Q0f w6 0 3 (.int .i64) (mg i) (gInputs t.gates i)):=Lib.hid (fun i hi=>Q2z (HOWN5.out.inp i hi) HOWN5.out.bas (by decide) hoth)
       have HXW6:Hid (Ext w w6):=Lib.hid (HX1.out.trans hbel);have hgg6:=HBG6.out.lt;have hng:=HFIT.out.ng;have c2:=HK6.out.cell 2;simp only [Go.Tw.gA,Go.Tw.gB,Go.Tw.gC] at c2;have hgc:Q0h enc3 t.gates.length (gF t mg) = Q0h enc3 t.gates.length (gD t mg 0):=Q1h fun i _=>by simp [gD]
       have HGG:Hid (Blk w6 gg 83 (Q0h enc3 t.gates.length (gD t mg 0))):=Lib.hid (by rw [<- hgc]; exact HBG6.out)
       clear hbb hbel hoth hgc;go_wp2;clear c2
       go_loopw [46] (fun i wr=>∃ (k:Nat),k <= t.gates.length /\ i = .int .i64 k /\ Blk wr gg 83 (Q0h enc3 t.gates.length (gD t mg k)) /\ Ext wq wr /\ w6.heap.size <= wr.heap.size /\ ∀ b,b < w6.heap.size -> b ≠ gg -> wr.heap[b]? = w6.heap[b]?) (fun i _=>t.gates.length - (intOf i).toNat)
       case atStart=>exact ⟨0,Nat.zero_le _,rfl,HGG.out,HBEL6.out,Nat.le_refl _,fun _ _ _=>rfl⟩
       case round =>
        obtain ⟨k,hk,rfl,hgg,hbel,hsz,hoth⟩:=hrel
        by_cases hlt:k < t.gates.length
        . obtain ⟨_,_,he0,_,_,hcc⟩:=HT1.out.gates.opened
          cases he0;obtain ⟨b1,off,mv,rfl,hb1,e0,e1,e2,hM,hsh⟩:=hcc k hlt;replace e0:=hbel.cell e0;replace e1:=hbel.cell e1;replace e2:=hbel.cell e2;obtain ⟨A3,cap3,rfl,_,_,_⟩:=hM.opened;have hnd:=Valid.need HV.out hlt;obtain ⟨nm,hnm⟩:∃ x,gKind t.gates k = x:=⟨_,rfl⟩;obtain ⟨nd,hndd⟩:∃ x,gNeed t.gates k = x:=⟨_,rfl⟩;obtain ⟨ml,hml⟩:∃ x,gInputs t.gates k = x:=⟨_,rfl⟩;rw [hnm] at e0;rw [hndd] at e1 hnd;rw [hml] at e2 hM hnd;have HNM:=Lib.hid hnm;have HND:=Lib.hid hndd;have HML:=Lib.hid hml;have HGG6:=Lib.hid hgg;have HBEL:=Lib.hid hbel;have HOTH:=Lib.hid hoth;have HB6:=Lib.hid (Q0s HB6.out (Q0r HB6.out HBG6.out (by decide)) hoth)
          have hkI:(k:Int) < t.gates.length:=by omega
          have hwr:=hbel.size;clear hgg hbel hoth hcc hM hnm hndd hml;go_wp2_with (refine Q0j rfl _ _ 83 rfl Tryd.X3y rfl rfl (Blk.made _ _ _) rfl rfl ?_ ?_; (focus (intro u hu; simp only [List.mem_cons,List.not_mem_nil,or_false] at hu; rcases hu with rfl | rfl | rfl <;> rfl)); intro w7 hb7 hl7 ho7; refine halted ?_)
          have hx7:Ext wr w7:=Below.trans (Ext.box wr _) (hl7 _ (Nat.le_refl _));have HX7:=Lib.hid hx7;have HGG7:=Lib.hid (HGG6.out.ext hx7);have s0:=hb7.cell 0;have s1:=hb7.cell 1;have s2:=hb7.cell 2;have s3:=(HB6.out.ext hx7).cell 2;simp only [Go.Tw.gA,Go.Tw.gB,Go.Tw.gC] at s0 s1 s2 s3;clear hb7 hl7 ho7 hx7 e0 e1 e2;unfold Q2v
          by_cases hk1:nm = sAnd
          . subst hk1
            unfold sAnd at s0;go_wp2_with (refine Q0y rfl _ _ 9 rfl Tryd.Y2a (u:=.string ⟨#[111,114]⟩) (g:=gg) (k:=k * 3 + 0) rfl rfl rfl rfl HGG7.out (by rw [Q0i Q0t]; omega) ?_; intro w8 hb8 hl8 ho8; refine halted ?_)
            have hbs:Blk w8 gg 83 (Q0h enc3 t.gates.length (gD t mg (k + 1))):=by
             have h:=hb8;rw [Q4p (gD t mg k) (gD t mg (k + 1)) (r:=0) hlt (by decide) (X3i t mg k 0 _ (by rw [X7a HNM.out,HNM.out]; rfl)) (fun j hj=>Q9s t mg k j hj)] at h
             exact h
            have HBS:=Lib.hid hbs;have HE8:Hid (Ext wq w8):=Lib.hid (Below.trans (HBEL.out.trans HX7.out) (hl8 wq.heap.size (by omega)))
            have HS8:Hid (w6.heap.size <= w8.heap.size):=Lib.hid (Nat.le_trans hsz (Nat.le_trans HX7.out.size (hl8 0 (Nat.zero_le _)).size));have HO8:Hid (∀ b,b < w6.heap.size -> b ≠ gg -> w8.heap[b]? = w6.heap[b]?):=Lib.hid (fun b hb hne=>(ho8 b hne).trans ((HX7.out.block b (Nat.lt_of_lt_of_le hb hsz)).trans (HOTH.out b hb hne)));clear hb8 hl8 ho8 hbs s0 s1 s2 s3;unfold Q2v;go_wp2;go_roundw
            case rel=>exact ⟨k + 1,by omega,by go_num,HBS.out,HE8.out,HS8.out,HO8.out⟩
            case measure=>simp [intOf]; omega
          . have hb1:=Q7q X9m hk1
            by_cases hk2:nm = sOr
            . subst hk2
              clear hb1;unfold sOr at s0;go_wp2_with (refine Q0y rfl _ _ 9 rfl Tryd.Y2a (u:=.string ⟨#[97,110,100]⟩) (g:=gg) (k:=k * 3 + 0) rfl rfl rfl rfl HGG7.out (by rw [Q0i Q0t]; omega) ?_; intro w8 hb8 hl8 ho8; refine halted ?_)
              have hbs:Blk w8 gg 83 (Q0h enc3 t.gates.length (gD t mg (k + 1))):=by
               have h:=hb8;rw [Q4p (gD t mg k) (gD t mg (k + 1)) (r:=0) hlt (by decide) (X3i t mg k 0 _ (by rw [Y0l HNM.out,HNM.out]; rfl)) (fun j hj=>Q9s t mg k j hj)] at h
               exact h
              have HBS:=Lib.hid hbs;have HE8:Hid (Ext wq w8):=Lib.hid (Below.trans (HBEL.out.trans HX7.out) (hl8 wq.heap.size (by omega)))
              have HS8:Hid (w6.heap.size <= w8.heap.size):=Lib.hid (Nat.le_trans hsz (Nat.le_trans HX7.out.size (hl8 0 (Nat.zero_le _)).size));have HO8:Hid (∀ b,b < w6.heap.size -> b ≠ gg -> w8.heap[b]? = w6.heap[b]?):=Lib.hid (fun b hb hne=>(ho8 b hne).trans ((HX7.out.block b (Nat.lt_of_lt_of_le hb hsz)).trans (HOTH.out b hb hne)));clear hb8 hl8 ho8 hbs s0 s1 s2 s3;unfold Q2v;go_wp2;go_roundw
              case rel=>exact ⟨k + 1,by omega,by go_num,HBS.out,HE8.out,HS8.out,HO8.out⟩
              case measure=>simp [intOf]; omega
            . have hb2:=Q7q Y1f hk2
              have HK1:=Lib.hid hk1;have HK2:=Lib.hid hk2;have hw1:IntKind.i64.wrap ((ml.length:Int) + 1) = (ml.length:Int) + 1:=wrap_in (by omega) (by omega)
              have hw2:IntKind.i64.wrap ((ml.length:Int) + 1 - nd) = (ml.length:Int) + 1 - nd:=wrap_in (by omega) (by omega)
              clear hk1 hk2;go_wp2_with (refine Q0y rfl _ _ 3 rfl Tryd.Y1w (u:=.int .i64 ((ml.length:Int) + 1 - nd)) (g:=gg) (k:=k * 3 + 1) rfl rfl rfl rfl HGG7.out (by rw [Q0i Q0t]; omega) ?_; intro w8 hb8 hl8 ho8; refine halted ?_)
              have hbs:Blk w8 gg 83 (Q0h enc3 t.gates.length (gD t mg (k + 1))):=by
               have h:=hb8;rw [Q4p (gD t mg k) (gD t mg (k + 1)) (r:=1) hlt (by decide) (X3i t mg k 1 _ (by rw [X3p (by rw [HNM.out]; exact HK1.out) (by rw [HNM.out]; exact HK2.out),HML.out,HND.out]; rfl)) (fun j hj=>Q9s t mg k j hj)] at h
               exact h
              have HBS:=Lib.hid hbs;have HE8:Hid (Ext wq w8):=Lib.hid (Below.trans (HBEL.out.trans HX7.out) (hl8 wq.heap.size (by omega)))
              have HS8:Hid (w6.heap.size <= w8.heap.size):=Lib.hid (Nat.le_trans hsz (Nat.le_trans HX7.out.size (hl8 0 (Nat.zero_le _)).size));have HO8:Hid (∀ b,b < w6.heap.size -> b ≠ gg -> w8.heap[b]? = w6.heap[b]?):=Lib.hid (fun b hb hne=>(ho8 b hne).trans ((HX7.out.block b (Nat.lt_of_lt_of_le hb hsz)).trans (HOTH.out b hb hne)));clear hb8 hl8 ho8 hbs s0 s1 s2 s3;unfold Q2v;go_wp2;go_roundw
              case rel=>exact ⟨k + 1,by omega,by go_num,HBS.out,HE8.out,HS8.out,HO8.out⟩
              case measure=>simp [intOf]; omega
        . have e:k = t.gates.length:=by omega
          subst e;obtain ⟨w7,hw7⟩:∃ x,wr = x:=⟨_,rfl⟩;rw [hw7] at hgg hbel hsz hoth ⊢;clear hw7;have HGG7:=Lib.hid hgg;have HX7:Hid (Ext w w7):=Lib.hid (HX1.out.trans hbel);have HBB7:=Lib.hid (Q0s HBB6.out (Q0r HBB6.out HBG6.out (by decide)) hoth)
          have HBC7:=Lib.hid (Q0s HBC6.out (Q0r HBC6.out HBG6.out (by decide)) hoth)
          have HB7:=Lib.hid (Q0s HB6.out (Q0r HB6.out HBG6.out (by decide)) hoth)
          have HBR7:=Lib.hid (Q0s HBR6.out (Q0r HBR6.out HBG6.out (by decide)) hoth)
          have HM7:Hid (∀ i,i < t.causes.length -> Q0f w7 0 3 (.int .i64) (mc i) (cMembers t.causes i)):=Lib.hid (fun i hi=>Q2z (HM6.out i hi) HBG6.out (by decide) hoth)
          have HI7:Hid (∀ i,i < t.gates.length -> Q0f w7 0 3 (.int .i64) (mg i) (gInputs t.gates i)):=Lib.hid (fun i hi=>Q2z (HI6.out i hi) HBG6.out (by decide) hoth)
          clear hgg hbel hsz hoth;go_wp2_with (first | (refine Q0q rfl _ 71 rfl Tryd.Q3h Tryd.Q0z rfl HB7.out rfl ?_) | (refine Q0j rfl _ _ 71 rfl Tryd.Q0z rfl rfl HBR7.out rfl rfl ?_ ?_; (focus (intro u hu; simp only [List.mem_cons,List.not_mem_nil,or_false] at hu; rcases hu with rfl | rfl | rfl <;> rfl)); intro w8 hb8 hl8 ho8))
          have e1:=Q0r HBB7.out HBR7.out (by decide)
          have e2:=Q0r HBC7.out HBR7.out (by decide)
          have e3:=Q0r HGG7.out HBR7.out (by decide)
          have f1:=HBB7.out.only e1 ho8;have f2:=HBC7.out.only e2 ho8;have f3:=HGG7.out.only e3 ho8;have HM8:∀ i,i < t.causes.length -> IsInts w8 (mc i) (cMembers t.causes i):=fun i hi=>(Q1r (HM7.out i hi) HBR7.out (by decide) ho8).ints (HT.out.causes.short hi).2
          have HI8:∀ i,i < t.gates.length -> IsInts w8 (mg i) (gInputs t.gates i):=fun i hi=>(Q1r (HI7.out i hi) HBR7.out (by decide) ho8).ints (HT.out.gates.short hi).2
          refine bodyPost_ret (Q1q Tryd.results22 rfl hb8 Tryd.Q3h Tryd.Q0z rfl) rfl ?_;refine ⟨_,by rw [HE0.out]; rfl,?_,Below.trans HX7.out (hl8 _ (by omega))⟩
          rw [HDT.out];refine ⟨_,_,_,rfl,⟨?_,?_,?_⟩⟩
          . have hle:(t.basics.map X3d).length = t.basics.length:=List.length_map _
            have:=X2j (l:=t.basics.map X3d) f1 (by omega) (by omega) fun i hi=>by
             rw [hle] at hi;obtain ⟨q1,q2⟩:=X5u hi;rw [q1,q2];exact ⟨by unfold bD; rw [if_pos hi],HT.out.basics.short hi⟩
            rw [hle] at this;exact this
          . exact X2i f2 (Nat.le_refl _) HFIT.out.nc fun i hi=>⟨_,rfl,HM8 i hi,(HT.out.causes.short hi).1⟩
          . have hle:(t.gates.map Q4m).length = t.gates.length:=List.length_map _
            have:=Q8m (l:=t.gates.map Q4m) f3 (by omega) (by omega) fun i hi=>by
             rw [hle] at hi;obtain ⟨q1,q2,q3⟩:=X7m hi;rw [q1,q2,q3];exact ⟨_,by unfold gD; rw [if_pos hi],HI8 i hi,X6p (HT.out.gates.short hi).1⟩
            rw [hle] at this;exact this
  . have hne:(E != 0) = true:=by simp [hE0]
    have HZT:Hid (X3k t = ⟨[],[],[]⟩):=Lib.hid (by unfold X3k; rw [if_neg (by rw [HFIN.out]; exact hE0)])
    go_wp2_with (refine Q0j rfl _ _ 71 rfl Tryd.Q0z rfl rfl hbr rfl rfl ?_ ?_; (focus (intro u hu; simp only [List.mem_cons,List.not_mem_nil,or_false] at hu; rcases hu with rfl | rfl | rfl <;> rfl)); intro w8 hb8 hl8 ho8)
    refine bodyPost_ret (Q1q Tryd.results22 rfl hb8 Tryd.Q3h Tryd.Q0z rfl) rfl ?_;refine ⟨_,by rw [HFIN.out]; rfl,?_,Below.trans HX1.out (hl8 _ (by omega))⟩
    rw [HZT.out];exact X9b _
end Go.Proofs
namespace Go.Proofs
open Go.RowKit Go.Tw Go.Flow
def Q3l (x:Int):ByteArray:=⟨(Lib.decDigits x.toNat).toArray⟩
end Go.Proofs
namespace Go.Proofs
open Go.RowKit Go.Tw Go.Flow
theorem Q2g {n:Nat} (h:n < 10):Q3l n = ⟨#[UInt8.ofNat (48 + n)]⟩:=by
 unfold Q3l;rw [Int.toNat_natCast];unfold Lib.decDigits;rw [dif_pos h]
theorem X1e {n:Nat} (h:10 <= n) (h2:n < 100):Q3l n = Q3l (n / 10:Nat) ++ Q3l (n % 10:Nat):=by
 rw [Q2g (show n / 10 < 10 by omega),Q2g (show n % 10 < 10 by omega)]
 unfold Q3l;rw [Int.toNat_natCast];unfold Lib.decDigits;rw [dif_neg (by omega)]
 unfold Lib.decDigits;rw [dif_pos (by omega)]
 apply ByteArray.ext
 rw [ByteArray.data_append];simp
theorem Q9u (w:World) {n:Nat} (h:n < 10):(convert 92 9 (.slice (some ⟨w.heap.size,0,none⟩) 1 1)).run Tryd.prog (w.alloc (.cells #[.int .u8 (48 + (n:Int))] 5)) = .ok (.string (Q3l n)) (w.alloc (.cells #[.int .u8 (48 + (n:Int))] 5)):=by
 have:=run_convert_bytes_back (P:=Tryd.prog) (w.alloc (.cells #[.int .u8 (48 + (n:Int))] 5)) 92 9 5 ⟨w.heap.size,0,none⟩ 1 [UInt8.ofNat (48 + n)] (by kernel_rfl) (by kernel_rfl) (by kernel_rfl) (fun j hj=>by
  have e:j = 0:=by simpa using hj
  subst e;rw [addr_add,World.cell?_alloc_at _ _ _ _ rfl];have e2:(UInt8.ofNat (48 + n)).toNat = 48 + n:=by rw [UInt8.toNat_ofNat']; omega
  simp only [List.getElem_cons_zero,e2];rw [Int.natCast_add];rfl)
 rw [Q2g h];exact this
theorem Q9h (w:World) (n:Nat) (h:n < 10):Calls Tryd.prog 8 #[.int .i64 (n:Int)] w fun e w'=>e = .returned (.string (Q3l n)) /\ Ext w w':=by
 have h1:¬ (9:Int) < (n:Int):=by omega
 have h2:¬ (n:Int) < (-9:Int):=by omega
 have h3:¬ (n:Int) < (0:Int):=by omega
 have hw:IntKind.i64.wrap (48 + (n:Int)) = 48 + n:=Q2x _ (by omega) (by omega)
 have hc:=Q9u w h;go_enter Tryd.func8,Tryd.ntmps8;go_wp2;go_ret;exact ⟨rfl,Ext.box _ _⟩
theorem Q4b {n:Nat} (h:n < 100):(Q3l n).size <= 2:=by
 by_cases h1:n < 10
 . rw [Q2g h1]; show 1 <= 2; omega
 . rw [X1e (by omega) h,ByteArray.size_append,Q2g (show n / 10 < 10 by omega),Q2g (show n % 10 < 10 by omega)]
   show 1 + 1 <= 2;omega
theorem Y0e (w:World) (x:Int) (h0:0 <= x) (h:x < 100):Calls Tryd.prog 8 #[.int .i64 x] w fun e w'=>e = .returned (.string (Q3l x)) /\ Ext w w':=by
 obtain ⟨n,rfl⟩:∃ n:Nat,x = n:=⟨x.toNat,by omega⟩
 by_cases h1:n < 10
 . exact Q9h w n h1
 . have hg:(9:Int) < (n:Int):=by omega
   have hq:(n:Int).tdiv 10 = ((n / 10:Nat):Int):=(Int.ofNat_tdiv n 10).symm;have hr:(n:Int).tmod 10 = ((n % 10:Nat):Int):=(Int.ofNat_tmod n 10).symm;obtain ⟨a,ha⟩:∃ a,n / 10 = a:=⟨_,rfl⟩;obtain ⟨b,hb⟩:∃ b,n % 10 = b:=⟨_,rfl⟩;have hS:=Lib.hid (X1e (show 10 <= n by omega) (by omega))
   have hal:a < 10:=by omega
   have hbl:b < 10:=by omega
   have HA:=Lib.hid hal;have HB:=Lib.hid hbl;have hs:¬ 9223372036854775807 < (Q3l a).size + (Q3l b).size:=by
    have:=Q4b (n:=a) (by omega)
    have:=Q4b (n:=b) (by omega)
    omega
   rw [ha,hb] at hS;rw [ha] at hq;rw [hb] at hr;clear ha hb h0 h h1;go_enter Tryd.func8,Tryd.ntmps8;go_wp2_with fail;refine (Q9h _ a HA.out).mono ?_;rintro e w1 ⟨rfl,hx⟩;go_wp2_with fail;refine (Q9h _ b HB.out).mono ?_;rintro e w2 ⟨rfl,hx2⟩;go_wp2;go_ret;exact ⟨by rw [hS.out]; rfl,hx.trans hx2⟩
end Go.Proofs
