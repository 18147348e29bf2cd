/- A block of cells under one name; the block in which nodes are made. -/
import Derived.Test.YtmaejccjimkbiaaGreatDoorFx09
import Derived.Test.YtmaejccjimkbiaaGreatDoorFx07
set_option linter.unusedVariables false
set_option linter.unusedSimpArgs false
set_option linter.constructorNameAsVariable false
namespace Go.Tw
open Go.RowKit Go.Flow
def Blk (w:World) (g:Nat) (T:TypeId) (cs:Array Value):Prop:=w.heap[g]? = some (.cells cs T (0,0))
theorem Blk.made (w:World) (T:TypeId) (cs:Array Value):Blk (w.alloc (.cells cs T)) w.heap.size T cs:=by show (w.heap.push _)[w.heap.size]? = _; simp
theorem Blk.cell {w:World} {g:Nat} {T:TypeId} {cs:Array Value} (h:Blk w g T cs) (k:Nat):w.cell? ⟨g,k,none⟩ = cs[k]?:=by unfold Blk at h; simp [World.cell?,h]
theorem Blk.frozen {w:World} {g:Nat} {T:TypeId} {cs:Array Value} (h:Blk w g T cs) (k:Nat):w.frozen? ⟨g,k,none⟩ = false:=by unfold Blk at h; simp [World.frozen?,h]
theorem Blk.set {w:World} {g:Nat} {T:TypeId} {cs:Array Value} (h:Blk w g T cs) (k:Nat) (u:Value):Blk (w.setCell ⟨g,k,none⟩ u) g T (cs.setIfInBounds k u):=by
 unfold Blk at h ⊢;simp only [World.setCell,Array.getElem?_modify,if_true,h,Option.map_some]; rfl
theorem Blk.below {w w':World} {g B:Nat} {T:TypeId} {cs:Array Value} (h:Blk w g T cs) (hb:Below B w w') (hg:g < B):Blk w' g T cs:=by
 unfold Blk at h ⊢; rw [hb.block g hg]; exact h
theorem Blk.lt {w:World} {g:Nat} {T:TypeId} {cs:Array Value} (h:Blk w g T cs):g < w.heap.size:=(Array.getElem?_eq_some_iff.1 h).1
theorem Blk.ext {w w':World} {g:Nat} {T:TypeId} {cs:Array Value} (h:Blk w g T cs) (hx:Ext w w'):Blk w' g T cs:=h.below hx h.lt
theorem Blk.drew {w:World} {g:Nat} {T:TypeId} {cs:Array Value} (h:Blk w g T cs):Blk w.drew g T cs:=h
theorem Q0q.setCell {α:Type} {w:World} {base:Nat} {e:TypeId} {enc:α → Value} {v:Value} {l:List α} (h:Q0q w base e enc v l) {p:Addr} (hp:p.block < base) (u:Value):Q0q (w.setCell p u) base e enc v l:=by
 obtain ⟨h1,h2⟩:=h;refine ⟨h1,?_⟩
 rcases h2 with h2 | ⟨g,cap,cur,hv,hb,hg,r⟩
 · exact .inl h2
 · exact .inr ⟨g,cap,cur,hv,hb,by rw [Below.heap_setCell _ _ _ _ (by omega)]; exact hg,r⟩
def outA (sz:Int) (fv:Value) (c:List Int) (nb:Int) (gv:Value):Array Value:=#[.int .i64 sz,fv,.int .i64 (ix c 0),.int .i64 (ix c 1),.int .i64 (ix c 2),.int .i64 (ix c 3),.int .i64 (ix c 4),.int .i64 (ix c 5),.int .i64 (ix c 6),.int .i64 (ix c 7),.int .i64 (ix c 8),.int .i64 (ix c 9),.int .i64 (ix c 10),.int .i64 (ix c 11),.int .i64 nb,gv]
theorem X8o (sz:Int) (fv:Value) (c:List Int) (nb:Int) (gv:Value) {j:Nat} (hj:j < 12):(outA sz fv c nb gv)[2 + j]? = some (.int .i64 (ix c j)):=by
 have:j = 0 ∨ j = 1 ∨ j = 2 ∨ j = 3 ∨ j = 4 ∨ j = 5 ∨ j = 6 ∨ j = 7 ∨ j = 8 ∨ j = 9 ∨ j = 10 ∨ j = 11:=by omega
 rcases this with rfl | rfl | rfl | rfl | rfl | rfl | rfl | rfl | rfl | rfl | rfl | rfl <;> rfl
theorem Y4o (sz:Int) (fv:Value) {c d:List Int} (nb:Int) (gv:Value) {j:Nat} {x:Int} (hj:j < 12) (hd:∀ i,i < 12 → ix d i = if i = j then x else ix c i):(outA sz fv c nb gv).setIfInBounds (2 + j) (.int .i64 x) = outA sz fv d nb gv:=by
 have hj':j = 0 ∨ j = 1 ∨ j = 2 ∨ j = 3 ∨ j = 4 ∨ j = 5 ∨ j = 6 ∨ j = 7 ∨ j = 8 ∨ j = 9 ∨ j = 10 ∨ j = 11:=by omega
 have d0:=hd 0 (by omega)
 have d1:=hd 1 (by omega)
 have d2:=hd 2 (by omega)
 have d3:=hd 3 (by omega)
 have d4:=hd 4 (by omega)
 have d5:=hd 5 (by omega)
 have d6:=hd 6 (by omega)
 have d7:=hd 7 (by omega)
 have d8:=hd 8 (by omega)
 have d9:=hd 9 (by omega)
 have d10:=hd 10 (by omega)
 have d11:=hd 11 (by omega)
 unfold outA
 rcases hj' with rfl | rfl | rfl | rfl | rfl | rfl | rfl | rfl | rfl | rfl | rfl | rfl <;> simp only [d0,d1,d2,d3,d4,d5,d6,d7,d8,d9,d10,d11] <;> rfl
theorem Y2m {P:Program} {w:World} {g:Nat} {T:TypeId} {cs:Array Value} (h:Blk w g T cs):(loadCells ⟨g,0,none⟩ cs.size).run P w = .ok cs w:=by
 have gen:∀ (n i:Nat) (acc:Array Value),i + n = cs.size → acc.toList = cs.toList.take i → (loadCellsFrom ⟨g,0,none⟩ i n acc).run P w = .ok cs w:=by
  intro n
  induction n with
  | zero =>
    intro i acc hi ha;have:acc = cs:=by
     apply Array.toList_inj.1
     rw [ha,List.take_of_length_le (by simp; omega)]
    subst this;simp [loadCellsFrom]
  | succ n ih =>
    intro i acc hi ha;have h0:=h.cell i;have hlt:i < cs.size:=by omega
    rw [Array.getElem?_eq_getElem hlt] at h0;have ea:(⟨g,0,none⟩:Addr).add i = ⟨g,i,none⟩:=by rw [addr_add,Nat.zero_add]
    rw [loadCellsFrom,ea];simp only [Sem.run_bind,load,Sem.run,h0,Result.andThen_ok];refine ih (i + 1) _ (by omega) ?_
    rw [Array.toList_push,ha,← Array.getElem_toList (by simpa using hlt),List.take_append_getElem]
 exact gen cs.size 0 #[] (by omega) rfl
theorem Q7p {P:Program} {g:Nat} {T:TypeId}:∀ (vs:List Value) (i:Nat) (w:World) (cs:Array Value),Blk w g T cs → (∀ u ∈ vs,u.oneCell' = true) → i + vs.length = cs.size →
    ∃ w',(storeCells ⟨g,0,none⟩ vs i).run P w = .ok () w' ∧ Blk w' g T (cs.toList.take i ++ vs).toArray ∧ (∀ n,n ≤ g → Below n w w') ∧ ∀ k,k ≠ g → w'.heap[k]? = w.heap[k]?
 | [],i,w,cs,h,_,hi=>⟨w,by simp [storeCells],by rw [List.take_of_length_le (by simp at hi ⊢; omega),List.append_nil]; exact h,fun _ _=>Below.refl _ _,fun _ _=>rfl⟩
 | v :: vs,i,w,cs,h,h1,hi=>by
   have hlt:i < cs.size:=by simp at hi; omega
   have h0:=h.cell i;rw [Array.getElem?_eq_getElem hlt] at h0;have ea:(⟨g,0,none⟩:Addr).add i = ⟨g,i,none⟩:=by rw [addr_add,Nat.zero_add]
   obtain ⟨w',hr,hb,hl,ho⟩:=Q7p vs (i + 1) (w.setCell ⟨g,i,none⟩ v) (cs.setIfInBounds i v) (h.set i v) (fun u hu=>h1 u (List.mem_cons_of_mem _ hu)) (by simp at hi ⊢; omega)
   refine ⟨w',?_,?_,fun n hn=>Below.trans ((Below.refl n w).setCell (p:=⟨g,i,none⟩) hn v) (hl n hn),fun k hk=>(ho k hk).trans (Below.heap_setCell _ _ _ _ hk)⟩
   · rw [storeCells,ea]
     simp only [Sem.run_bind,run_store P w _ v _ (h1 v (List.mem_cons_self ..)),h0,h.frozen i,Bool.false_eq_true,if_false,Result.andThen_ok];exact hr
   · have e:(cs.setIfInBounds i v).toList.take (i + 1) ++ vs = cs.toList.take i ++ v :: vs:=by
      rw [Array.toList_setIfInBounds,List.take_set,List.take_succ_eq_append_getElem (by simpa using hlt)]
      simp [Nat.min_eq_left (Nat.le_of_lt hlt)]
     rw [e] at hb; exact hb
theorem Q3t {P:Program} {w:World} {g:Nat} {T BT:TypeId} {cs:Array Value} (h:Blk w g BT cs) (hA:∀ w,(isAgg T).run P w = .ok true w) (hS:∀ w,(sizeOf T).run P w = .ok cs.size w):(loadVar T ⟨g,0,none⟩).run P w = .ok (.agg cs) w:=by
 unfold loadVar;simp only [Sem.run_bind,hA,Result.andThen_ok,if_true,hS,Y2m h,Sem.run_pure]
theorem Q0j {P:Program} {w:World} {ops:Array Oper} {rest:List Oper} {o:Oper} {a:Act} {Q:Exit → Act → World → Prop} (hg:o.guard = none) (p:Operand) (T:TypeId) (hop:o.op = .load T p)
    (hA:∀ w,(isAgg T).run P w = .ok true w) {n:Nat} (hS:∀ w,(sizeOf T).run P w = .ok n w) {g:Nat} (hp:a.eval p = .pointer (some ⟨g,0,none⟩)) {BT:TypeId} {cs:Array Value} (hb:Blk w g BT cs) (hn:cs.size = n)
    (hK:wpList P ops Q rest (a.put o.dst (.agg cs)) w):wpList P ops Q (o :: rest) a w:=by
 subst hn;refine wpList_plain hg fun K' hK'=>?_;unfold Oper.wp;have hr:(execOp a.eval o).run P w = .ok (.value (.agg cs)) w:=by
  unfold execOp;simp only [hop,hp,Instr.loadAt,Instr.sureAddr,Sem.run_bind,Sem.run_pure,Result.andThen_ok,Q3t hb hA hS]
 rw [hr];exact hK' _ _ hK
theorem Q0d {P:Program} {w:World} {ops:Array Oper} {rest:List Oper} {o:Oper} {a:Act} {Q:Exit → Act → World → Prop} (hg:o.guard = none) (p x:Operand) (T:TypeId) (hop:o.op = .store T p x)
    {n:Nat} (hS:∀ w,(sizeOf T).run P w = .ok n w) {g:Nat} (hp:a.eval p = .pointer (some ⟨g,0,none⟩)) {BT:TypeId} {cs vs:Array Value} (hx:a.eval x = .agg vs) (hb:Blk w g BT cs) (hn:cs.size = n) (hv:vs.size = n) (h1:∀ u ∈ vs.toList,u.oneCell' = true)
    (hK:∀ w',Blk w' g BT vs → (∀ n,n ≤ g → Below n w w') → (∀ k,k ≠ g → w'.heap[k]? = w.heap[k]?) → wpList P ops Q rest (a.put o.dst undef) w'):wpList P ops Q (o :: rest) a w:=by
 refine wpList_plain hg fun K' hK'=>?_;unfold Oper.wp;obtain ⟨w',hr,hb',hl,ho⟩:=Q7p (P:=P) vs.toList 0 w cs hb h1 (by simp [hn,hv])
 have hs:(storeVar T ⟨g,0,none⟩ (.agg vs)).run P w = .ok () w':=by
  have hc:(Value.agg vs).cells = vs:=rfl;unfold storeVar;simp only [Sem.run_bind,hS,Result.andThen_ok];rw [if_neg (by rw [hc]; simp [hv])]
  exact hr
 have hr2:(execOp a.eval o).run P w = .ok .skip w':=by
  unfold execOp;simp only [hop,hp,hx,Instr.storeAt,Instr.sureAddr,Sem.run_bind,Sem.run_pure,Result.andThen_ok,hs]
 rw [hr2];exact hK' _ _ (hK w' (by simpa using hb') hl ho)
theorem Q3h {P:Program} {fn:Func} {p:Tmp} {T:TypeId} (h:fn.results = #[.cell p T]) {tmps:Array Value} {w:World} {g:Nat} (ht:tmps.getD p undef = .pointer (some ⟨g,0,none⟩)) {BT:TypeId} {cs:Array Value} (hb:Blk w g BT cs)
    (hA:∀ w,(isAgg T).run P w = .ok true w) (hS:∀ w,(sizeOf T).run P w = .ok cs.size w):(results fn tmps).run P w = .ok (.agg cs) w:=by
 unfold results;rw [h];simp only [List.mapM_toArray,List.mapM_cons,List.mapM_nil,Sem.run_bind,Sem.run_pure,ht,asAddr];simp [Q3t hb hA hS]
theorem Q3a {P:Program} {K:Value → World → Prop} {o:Oper} {a:Act} {w:World} {T:TypeId} (p x:Operand) (ho:o.op = .store T p x) (hT:∀ w,(sizeOf T).run P w = .ok 1 w) {g k:Nat} (hp:a.eval p = .pointer (some ⟨g,k,none⟩)) {u:Value} (hx:a.eval x = u) (hu:u.cells = #[u]) (h1:u.oneCell' = true) {BT:TypeId} {cs:Array Value} (hb:Blk w g BT cs) (hk:k < cs.size)
    (h:∀ v,K v (w.setCell ⟨g,k,none⟩ u)):gives P K ((execOp a.eval o).run P w):=by
 have h0:=hb.cell k;rw [Array.getElem?_eq_getElem hk] at h0;have hs:(storeVar T ⟨g,k,none⟩ u).run P w = .ok () (w.setCell ⟨g,k,none⟩ u):=by
  unfold storeVar;simp only [Sem.run_bind,hT,Result.andThen_ok,hu];rw [if_neg (by simp)]
  simp only [storeCells,Sem.run_bind,Sem.run_pure];have ea:(⟨g,k,none⟩:Addr).add 0 = ⟨g,k,none⟩:=by rw [addr_add,Nat.add_zero]
  rw [ea,run_store P w _ u _ h1];simp only [h0,hb.frozen k,Bool.false_eq_true,if_false,Result.andThen_ok]
 unfold execOp;simp only [ho,hp,hx,Instr.storeAt,Instr.sureAddr,Sem.run_bind,Sem.run_pure,Result.andThen_ok,hs];exact h _
theorem X7y {P:Program} {K:Value → World → Prop} {o:Oper} {a:Act} {w:World} {T:TypeId} (p x:Operand) (ho:o.op = .store T p x) (hT:∀ w,(sizeOf T).run P w = .ok 1 w) {g k:Nat} (hp:a.eval p = .pointer (some ⟨g,k,none⟩)) {u c:Value} (hx:a.eval x = u) (hu:u.cells = #[c]) (h1:c.oneCell' = true) {BT:TypeId} {cs:Array Value} (hb:Blk w g BT cs) (hk:k < cs.size)
    (h:∀ v,K v (w.setCell ⟨g,k,none⟩ c)):gives P K ((execOp a.eval o).run P w):=by
 have h0:=hb.cell k;rw [Array.getElem?_eq_getElem hk] at h0;have hs:(storeVar T ⟨g,k,none⟩ u).run P w = .ok () (w.setCell ⟨g,k,none⟩ c):=by
  unfold storeVar;simp only [Sem.run_bind,hT,Result.andThen_ok,hu];rw [if_neg (by simp)]
  simp only [storeCells,Sem.run_bind,Sem.run_pure];have ea:(⟨g,k,none⟩:Addr).add 0 = ⟨g,k,none⟩:=by rw [addr_add,Nat.add_zero]
  rw [ea,run_store P w _ c _ h1];simp only [h0,hb.frozen k,Bool.false_eq_true,if_false,Result.andThen_ok]
 unfold execOp;simp only [ho,hp,hx,Instr.storeAt,Instr.sureAddr,Sem.run_bind,Sem.run_pure,Result.andThen_ok,hs];exact h _
theorem Q0q.only {α:Type} {w w':World} {base g:Nat} {e:TypeId} {enc:α → Value} {v:Value} {l:List α} (h:Q0q w base e enc v l) (hg:g < base) (ho:∀ k,k ≠ g → w'.heap[k]? = w.heap[k]?):Q0q w' base e enc v l:=by
 obtain ⟨h1,h2⟩:=h;refine ⟨h1,?_⟩
 rcases h2 with h2 | ⟨g',cap,cur,hv,hb,hg',r⟩
 · exact .inl h2
 · exact .inr ⟨g',cap,cur,hv,hb,by rw [ho _ (by omega)]; exact hg',r⟩
theorem Q1z.only {α:Type} {w w':World} {base g k:Nat} {e:TypeId} {enc:α → List Value} {v:Value} {l:List α} (h:Q1z w base e k enc v l) (hg:g < base) (ho:∀ k,k ≠ g → w'.heap[k]? = w.heap[k]?):Q1z w' base e k enc v l:=by
 obtain ⟨h1,h2⟩:=h;refine ⟨h1,?_⟩
 rcases h2 with h2 | ⟨g',cap,cur,hv,hb,hg',r⟩
 · exact .inl h2
 · exact .inr ⟨g',cap,cur,hv,hb,by rw [ho _ (by omega)]; exact hg',r⟩
theorem Q1z.shape {α:Type} {w:World} {base k:Nat} {e:TypeId} {enc:α → List Value} {v:Value} {l:List α} (h:Q1z w base e k enc v l):∃ b c,v = .slice b l.length c ∧ l.length ≤ c:=by
 rcases h.2 with ⟨rfl,h0⟩ | ⟨g,cap,cur,rfl,_,_,hc,_⟩
 · exact ⟨none,0,by rw [h0],by omega⟩
 · exact ⟨_,cap,rfl,hc⟩
theorem Q7g (w:World) (p:Addr) (u:Value):∀ k,k ≠ p.block → (w.setCell p u).heap[k]? = w.heap[k]?:=fun _ hk=>Below.heap_setCell _ _ _ _ hk
theorem X0b {w w':World} {row:Option Nat} (h:w.grownBy w' row) {b k:Nat} (hb:b < w.heap.size) (hne:some b ≠ row):w'.cell? ⟨b,k,none⟩ = w.cell? ⟨b,k,none⟩ :=
 World.cell?_of_block (w:=w) (h.block b hb hne)
theorem Q0q.new_ne {α:Type} {w:World} {base:Nat} {e:TypeId} {enc:α → Value} {v:Value} {l:List α} (h:Q0q w base e enc v l):some w.heap.size ≠ v.ownBlock:=fun e=>by
 have:=(World.ownsRow.lt h _ e.symm).2; omega
end Go.Tw
