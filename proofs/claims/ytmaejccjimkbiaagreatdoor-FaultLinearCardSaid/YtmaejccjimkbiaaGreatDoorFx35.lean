/- A copied tree read as a tree; contract: Without. -/
import Derived.Test.YtmaejccjimkbiaaGreatDoorFx34
import Derived.Test.YtmaejccjimkbiaaGreatDoorFx30
set_option linter.unusedVariables false
set_option linter.unusedSimpArgs false
set_option linter.constructorNameAsVariable false
namespace Go.Tw
open Go.RowKit Go.Flow
theorem Q1b {P:Program} {w:World} {ops:Array Oper} {rest:List Oper} {o:Oper} {a:Act} {Q:Exit → Act → World → Prop} (hg:o.guard = none) (p x:Operand) (T:TypeId) (hop:o.op = .store T p x)
    (hT:∀ w,(sizeOf T).run P w = .ok 1 w) {g k:Nat} (hp:a.eval p = .pointer (some ⟨g,k,none⟩)) {u:Value} (hx:a.eval x = u) (hu:u.cells = #[u]) (h1:u.oneCell' = true) {BT:TypeId} {cs:Array Value} (hb:Blk w g BT cs) (hk:k < cs.size)
    (hK:∀ w',Blk w' g BT (cs.setIfInBounds k u) → (∀ n,n ≤ g → Below n w w') → (∀ k,k ≠ g → w'.heap[k]? = w.heap[k]?) → wpList P ops Q rest (a.put o.dst undef) w'):wpList P ops Q (o :: rest) a w:=by
 refine wpList_plain hg fun K' hK'=>?_;unfold Oper.wp;have h0:=hb.cell k;rw [Array.getElem?_eq_getElem hk] at h0;have hs:(storeVar T ⟨g,k,none⟩ u).run P w = .ok () (w.setCell ⟨g,k,none⟩ u):=by
  unfold storeVar;simp only [Sem.run_bind,hT,Result.andThen_ok,hu];rw [if_neg (by simp)]
  simp only [storeCells,Sem.run_bind,Sem.run_pure];have ea:(⟨g,k,none⟩:Addr).add 0 = ⟨g,k,none⟩:=by rw [addr_add,Nat.add_zero]
  rw [ea,run_store P w _ u _ h1];simp only [h0,hb.frozen k,Bool.false_eq_true,if_false,Result.andThen_ok]
 have hr2:(execOp a.eval o).run P w = .ok .skip (w.setCell ⟨g,k,none⟩ u):=by
  unfold execOp;simp only [hop,hp,hx,Instr.storeAt,Instr.sureAddr,Sem.run_bind,Sem.run_pure,Result.andThen_ok,hs]
 rw [hr2];exact hK' _ _ (hK _ (hb.set k u) (fun n hn=>(Below.refl n w).setCell (p:=⟨g,k,none⟩) hn u) (fun k' hk'=>Below.heap_setCell _ _ _ _ hk'))
end Go.Tw
namespace Go.Proofs
open Go.RowKit Go.Tw Go.Flow
theorem Tryz.Y5t (w:World):(sizeOf 34).run Tryz.prog w = .ok 1 w:=by kernel_rfl
theorem Z5b.ext {w w':World} {base:Nat} {t:Tree} {gb gc gg:Nat} {mc mg:Nat → Value} (h:Z5b w base t gb gc gg mc mg) (hx:Ext w w'):Z5b w' base t gb gc gg mc mg :=
 ⟨h.bas.ext hx,h.cau.ext hx,h.gat.ext hx,fun i hi=>(h.mem i hi).below hx,fun i hi=>(h.inp i hi).below hx,h.b,h.c,h.g⟩
theorem Y4l {w:World} {v:Value} {l:List Int} (h:Q0q w 0 3 (.int .i64) v l):v.oneCell' = true:=by
 obtain ⟨A,c,rfl,_⟩:=h.cells;rfl
theorem Q1p {w w':World} {a g:Nat} {T:TypeId} {cs:Array Value} (h:Blk w a T cs) (hne:a ≠ g) (ho:∀ b,b < w.heap.size → b ≠ g → w'.heap[b]? = w.heap[b]?):Blk w' a T cs:=by
 have hl:=h.lt;unfold Blk at *; rw [ho a hl hne]; exact h
theorem Q3i {w w':World} {v:Value} {l:List Int} {g:Nat} {T:TypeId} {cs:Array Value} (h:Q0q w 0 3 (.int .i64) v l) (hb:Blk w g T cs) (hT:T ≠ 3) (ho:∀ b,b < w.heap.size → b ≠ g → w'.heap[b]? = w.heap[b]?):Q0q w' 0 3 (.int .i64) v l :=
 X8c h fun b hv hl=>ho b hl fun e=>X5e hT h hb (by rw [hv,e])
theorem X0a (l:List X0o) (k i:Nat) (_hi:i < (l.eraseIdx k).length):(l.eraseIdx k).getD i default = l.getD (if i < k then i else i + 1) default:=by
 rw [List.getD_eq_getElem?_getD,List.getD_eq_getElem?_getD,List.getElem?_eraseIdx]
 split <;> rfl
theorem X4y {α β:Type} {enc:α → List Value} {k:Nat} (hk:∀ x,(enc x).length = k) {R:World → (Nat → Value) → β → Prop} {w:World} {g n cap:Nat} {T:TypeId} {f:Nat → α} {l:List β} (hb:Blk w g T (Q1j enc n f)) (hl:l.length ≤ n) (hl2:l.length ≤ 17592186043904) (hcap:l.length ≤ cap)
    (hR:∀ c j (h:j < l.length),(∀ i,i < k → (enc (f j))[i]? = some (c i)) → R w c l[j]):Go.Tw.Rows k R w (.slice (some ⟨g,0,none⟩) l.length cap) l:=by
 have hs:=Q1c hk n f;refine ⟨fun j=>((Q1j enc n f)[j]?).getD undef,⟨_,_,rfl,hl2,hcap,fun j hj=>⟨g,0,rfl,?_⟩⟩,fun j hj=>hR _ _ hj fun i hi=>?_⟩
 · rw [hb.cell,Nat.zero_add]
   have:j < (Q1j enc n f).size:=by rw [hs]; exact Nat.lt_of_lt_of_le hj (Nat.mul_le_mul_right k hl)
   simp only [Array.getElem?_eq_getElem this,Option.getD_some]
 · show _ = some (((Q1j enc n f)[j * k + i]?).getD undef)
   rw [Q2r hk _ (Nat.lt_of_lt_of_le hj hl) hi];have:i < (enc (f j)).length:=by rw [hk]; exact hi
   simp only [List.getElem?_eq_getElem this,Option.getD_some]
theorem getD_at {α:Type} [Inhabited α] {l:List α} {k:Nat} (h:k < l.length):l.getD k default = l[k]:=by simp [h]
theorem Q6t {w:World} {g n:Nat} {T:TypeId} {f:Nat → ByteArray × Int} {l:List Basic} (hb:Blk w g T (Q1j enc2 n f)) (hl:l.length ≤ n) (hl2:l.length ≤ 1000) (hf:∀ i,i < l.length → f i = (bName l i,Q1l l i) ∧ Short (bName l i)) :
    Q3k w (.slice (some ⟨g,0,none⟩) l.length n) l :=
 X4y Q3j hb hl (by omega) hl fun c j h hc=>by
  obtain ⟨h1,h2⟩:=hf j h;have e:l.getD j default = l[j]:=getD_at h;have c0:=hc 0 (by omega)
  have c1:=hc 1 (by omega)
  rw [h1] at c0 c1;unfold bName Q1l at *;rw [e] at c0 c1 h2;simp only [enc2,List.getElem?_cons_zero,List.getElem?_cons_succ,Option.some.injEq] at c0 c1;exact ⟨c0.symm,c1.symm,h2⟩
theorem Q6n {w:World} {g n:Nat} {T:TypeId} {f:Nat → ByteArray × Int × Value} {l:List X0o} (hb:Blk w g T (Q1j enc3 n f)) (hl:l.length ≤ n) (hl2:l.length ≤ 1000) (hf:∀ i,i < l.length → ∃ m,f i = (cName l i,Q1d l i,m) ∧ Q0f w m (Q0c l i) ∧ Short (cName l i)) :
    Q3w w (.slice (some ⟨g,0,none⟩) l.length n) l :=
 X4y Q0s hb hl (by omega) hl fun c j h hc=>by
  obtain ⟨m,h1,hm,h2⟩:=hf j h;have e:l.getD j default = l[j]:=getD_at h;have c0:=hc 0 (by omega)
  have c1:=hc 1 (by omega)
  have c2:=hc 2 (by omega)
  rw [h1] at c0 c1 c2;unfold cName Q1d Q0c at *;rw [e] at c0 c1 c2 h2 hm;simp only [enc3,List.getElem?_cons_zero,List.getElem?_cons_succ,Option.some.injEq] at c0 c1 c2;exact ⟨c0.symm,c1.symm,c2 ▸ hm,h2⟩
theorem Q8b {w:World} {g n:Nat} {T:TypeId} {f:Nat → ByteArray × Int × Value} {l:List Gate} (hb:Blk w g T (Q1j enc3 n f)) (hl:l.length ≤ n) (hl2:l.length ≤ 1000) (hf:∀ i,i < l.length → ∃ m,f i = (Q2c l i,Q2x l i,m) ∧ Q0f w m (Q0l l i) ∧ Short (Q2c l i)) :
    Q4m w (.slice (some ⟨g,0,none⟩) l.length n) l :=
 X4y Q0s hb hl (by omega) hl fun c j h hc=>by
  obtain ⟨m,h1,hm,h2⟩:=hf j h;have e:l.getD j default = l[j]:=getD_at h;have c0:=hc 0 (by omega)
  have c1:=hc 1 (by omega)
  have c2:=hc 2 (by omega)
  rw [h1] at c0 c1 c2;unfold Q2c Q2x Q0l at *;rw [e] at c0 c1 c2 h2 hm;simp only [enc3,List.getElem?_cons_zero,List.getElem?_cons_succ,Option.some.injEq] at c0 c1 c2;exact ⟨c0.symm,c1.symm,c2 ▸ hm,h2⟩
theorem _root_.Go.Tw.Q3k.short {w:World} {v:Value} {l:List Basic} (h:Q3k w v l) {k:Nat} (hk:k < l.length):Short (bName l k):=by
 obtain ⟨_,_,_,_,_,hc⟩:=h.opened;obtain ⟨_,_,_,_,_,_,hs⟩:=hc k hk;exact hs
theorem _root_.Go.Tw.Q3w.short {w:World} {v:Value} {l:List X0o} (h:Q3w w v l) {k:Nat} (hk:k < l.length):Short (cName l k) ∧ (Q0c l k).length ≤ 17592186043904:=by
 obtain ⟨_,_,_,_,_,hc⟩:=h.opened;obtain ⟨_,_,_,_,_,_,_,_,hm,hs⟩:=hc k hk;obtain ⟨_,_,_,hl,_⟩:=hm.opened;exact ⟨hs,hl⟩
theorem _root_.Go.Tw.Q4m.short {w:World} {v:Value} {l:List Gate} (h:Q4m w v l) {k:Nat} (hk:k < l.length):Short (Q2c l k) ∧ (Q0l l k).length ≤ 17592186043904:=by
 obtain ⟨_,_,_,_,_,hc⟩:=h.opened;obtain ⟨_,_,_,_,_,_,_,_,hm,hs⟩:=hc k hk;obtain ⟨_,_,_,hl,_⟩:=hm.opened;exact ⟨hs,hl⟩
def Q1r (t:Tree) (k:Int):Int:=Q0h [t.err,Q0k (decide (k < 0) || decide ((t.causes.length:Int) ≤ k)) 10]
def Q2t (t:Tree) (k:Int):Tree:=if Q1r t k = 0 then ⟨t.basics,t.causes.eraseIdx k.toNat,t.gates⟩ else ⟨[],[],[]⟩
def Z4o:Value:=.agg #[.slice none 0 0,.slice none 0 0,.slice none 0 0]
theorem Q7a (w:World):IsTree w Z4o ⟨[],[],[]⟩:=⟨_,_,_,rfl,⟨Go.Tw.Rows.nil _ _ _,Go.Tw.Rows.nil _ _ _,Go.Tw.Rows.nil _ _ _⟩⟩
def Q0v (T:TypeId) (w:World) (v:Value) (t:Tree):Prop:=∀ wm,Ext w wm → ∀ w',(w' = wm ∨ ∃ g cs,Blk wm g T cs ∧ ∀ k,k ≠ g → w'.heap[k]? = wm.heap[k]?) → IsTree w' v t
theorem Q0v.ext {T:TypeId} {w w':World} {v:Value} {t:Tree} (h:Q0v T w v t) (hx:Ext w w'):Q0v T w' v t:=fun wm hm=>h wm (hx.trans hm)
theorem Q0v.is {T:TypeId} {w:World} {v:Value} {t:Tree} (h:Q0v T w v t):IsTree w v t:=h w (Ext.refl _) w (.inl rfl)
theorem X7z {w w':World} {b:Nat} {T S:TypeId} {ds:Array Value} (h:Blk w b S ds) (hT:S ≠ T) (ho:w' = w ∨ ∃ g cs,Blk w g T cs ∧ ∀ k,k ≠ g → w'.heap[k]? = w.heap[k]?):Blk w' b S ds:=by
 rcases ho with rfl | ⟨g,cs,hb,ho⟩
 · exact h
 · exact h.only (Q1i h hb hT) ho
theorem Y5k {w w':World} {T:TypeId} {v:Value} {l:List Int} (h:Q0q w 0 3 (.int .i64) v l) (hT:T ≠ 3) (ho:w' = w ∨ ∃ g cs,Blk w g T cs ∧ ∀ k,k ≠ g → w'.heap[k]? = w.heap[k]?):Q0q w' 0 3 (.int .i64) v l:=by
 rcases ho with rfl | ⟨g,cs,hb,ho⟩
 · exact h
 · exact Q2e h hb hT ho
set_option maxRecDepth 100000 in
set_option maxHeartbeats 2000000 in
theorem X3b (w:World) (v:Value) (t:Tree) (k:Int) (ht:IsTree w v t) (hk1:-9223372036854775808 ≤ k) (hk2:k ≤ 9223372036854775807) :
    Calls Tryz.prog 35 #[v,.int .i64 k] w fun e w'=>∃ u,e = .returned (.tuple #[u,.int .i64 (Q1r t k)]) ∧ Q0v 37 w' u (Q2t t k) ∧ Ext w w':=by
 obtain ⟨a,b,c,rfl,h3⟩:=ht;obtain ⟨A,capa,rfl,hl1,hcap1,_⟩:=h3.basics.opened;obtain ⟨B,capb,rfl,hl2,hcap2,_⟩:=h3.causes.opened;obtain ⟨G,capg,rfl,hl3,hcap3,_⟩:=h3.gates.opened;have HT0:=Lib.hid h3;clear h3;go_enter Tryz.func35,Tryz.ntmps35;go_wp2_with fail;change Calls _ _ _ ((w.alloc (.cells #[.slice A t.basics.length capa,.slice B t.causes.length capb,.slice G t.gates.length capg] 37)).alloc (.cells #[.slice none 0 0,.slice none 0 0,.slice none 0 0] 37)) _;have k0:=Blk.made w 37 #[.slice A t.basics.length capa,.slice B t.causes.length capb,.slice G t.gates.length capg];have x0:=Ext.box w (.cells #[.slice A t.basics.length capa,.slice B t.causes.length capb,.slice G t.gates.length capg] 37);have es0:(w.alloc (.cells #[.slice A t.basics.length capa,.slice B t.causes.length capb,.slice G t.gates.length capg] 37)).heap.size = w.heap.size + 1:=by simp
 obtain ⟨X0,hX0⟩:∃ X,w.alloc (.cells #[.slice A t.basics.length capa,.slice B t.causes.length capb,.slice G t.gates.length capg] 37) = X:=⟨_,rfl⟩;rw [hX0] at k0 x0 es0 ⊢;clear hX0;have k1:=Blk.made X0 37 #[.slice none 0 0,.slice none 0 0,.slice none 0 0];have x1:=Ext.box X0 (.cells #[.slice none 0 0,.slice none 0 0,.slice none 0 0] 37);have es1:(X0.alloc (.cells #[.slice none 0 0,.slice none 0 0,.slice none 0 0] 37)).heap.size = X0.heap.size + 1:=by simp
 obtain ⟨X1,hX1⟩:∃ X,X0.alloc (.cells #[.slice none 0 0,.slice none 0 0,.slice none 0 0] 37) = X:=⟨_,rfl⟩;rw [hX1] at k1 x1 es1 ⊢;clear hX1;replace k0:=k0.ext x1;have e0:X0.heap.size = w.heap.size + 1:=by omega
 have e1:X1.heap.size = w.heap.size + 1 + 1:=by omega
 rw [e0] at k1;have HXW:Hid (Ext w X1):=by exact (Ext.trans (x0) x1:Ext w X1)
 have eW:X1.heap.size = w.heap.size + 1 + 1:=e1;clear x0 es0 e0 x1 es1 e1;obtain ⟨W,hWW⟩:∃ W,X1 = W:=⟨_,rfl⟩;rw [hWW] at HXW eW ⊢ k0 k1;clear hWW;have HT:=Lib.hid (HT0.out.ext HXW.out);refine (Q2j _ _ t ⟨_,_,_,rfl,HT.out⟩).mono ?_;rintro e w1 ⟨rfl,hx1⟩;have kt:=k0.ext hx1;have c0:=kt.cell 0;have c1:=kt.cell 1;have c2:=kt.cell 2;simp only [List.getElem?_toArray,List.getElem?_cons_zero,List.getElem?_cons_succ] at c0 c1 c2;have HXX:=Lib.hid (HXW.out.trans hx1);have HX1:=Lib.hid hx1;clear kt hx1;have hbr:=k1.ext HX1.out;have K0:=Lib.hid (k0.ext HX1.out);clear k0 k1
 by_cases hq0:k < 0
 · have HE:Hid (Q1r t k = Q0h [t.err,Q0k true 10]):=by exact (by unfold Q1r; simp [hq0]:Q1r t k = Q0h [t.err,Q0k true 10])
   have hE0:Q0h [t.err,Q0k true 10] ≠ 0:=by unfold Q0h; split <;> simp_all [Q0h,Q0k]
   have HZT:Hid (Q2t t k = ⟨[],[],[]⟩):=by exact (by unfold Q2t; rw [if_neg (by rw [HE.out]; exact hE0)]:Q2t t k = ⟨[],[],[]⟩)
   obtain ⟨E,hE⟩:∃ E,Q0h [t.err,Q0k true 10] = E:=⟨_,rfl⟩;have HF:Hid (∀ (w':World) (u:Value),Q0f w' u [t.err,Q0k true 10] → Calls Tryz.prog 74 #[u] w' fun e w''=>e = .returned (.int .i64 E) ∧ w' = w''):=by
    exact (by intro w' u h; rw [← hE]; exact first_any _ _ _ h:∀ (w':World) (u:Value),Q0f w' u [t.err,Q0k true 10] → Calls Tryz.prog 74 #[u] w' fun e w''=>e = .returned (.int .i64 E) ∧ w' = w'')
   rw [hE] at hE0 HE;have hne:(E != 0) = true:=by simp [hE0]
   clear hE hE0;go_wp2_with fail;refine (Q3n _ true 10).mono ?_;rintro e w2 ⟨rfl,rfl⟩;obtain ⟨wh,hwh⟩:∃ x,Q0k true 10 = x:=⟨_,rfl⟩;rw [hwh] at HF ⊢;clear hwh;go_wp2_with fail;refine (HF.out _ _ (Q2m (l:=[t.err,wh]) (by simp))).mono ?_
   rintro e w3 ⟨rfl,hw3⟩;have hx3:Ext w1 w3:=by rw [← hw3]; exact Ext.box w1 _
   clear hw3;have HX3:=Lib.hid hx3;replace hbr:=hbr.ext hx3;clear hx3 c0 c1 c2;go_wp2_with (refine Q0d rfl _ _ 37 rfl Tryz.Q0w rfl rfl hbr rfl rfl ?_ ?_; (focus (intro u hu; simp only [List.mem_cons,List.not_mem_nil,or_false] at hu; rcases hu with rfl | rfl | rfl <;> rfl)); intro w8 hb8 hl8 ho8)
   refine bodyPost_ret (Q0o Tryz.results35 rfl hb8 Tryz.Q2v Tryz.Q0w rfl) rfl ?_;refine ⟨_,by rw [HE.out]; rfl,?_,Below.trans (HXX.out.trans HX3.out) (hl8 _ (by omega))⟩
   rw [HZT.out];exact fun _ _ _ _=>Q7a _
 by_cases hq1:(t.causes.length:Int) ≤ k
 · have HE:Hid (Q1r t k = Q0h [t.err,Q0k true 10]):=by exact (by unfold Q1r; simp [hq0,hq1]:Q1r t k = Q0h [t.err,Q0k true 10])
   have hE0:Q0h [t.err,Q0k true 10] ≠ 0:=by unfold Q0h; split <;> simp_all [Q0h,Q0k]
   have HZT:Hid (Q2t t k = ⟨[],[],[]⟩):=by exact (by unfold Q2t; rw [if_neg (by rw [HE.out]; exact hE0)]:Q2t t k = ⟨[],[],[]⟩)
   obtain ⟨E,hE⟩:∃ E,Q0h [t.err,Q0k true 10] = E:=⟨_,rfl⟩;have HF:Hid (∀ (w':World) (u:Value),Q0f w' u [t.err,Q0k true 10] → Calls Tryz.prog 74 #[u] w' fun e w''=>e = .returned (.int .i64 E) ∧ w' = w''):=by
    exact (by intro w' u h; rw [← hE]; exact first_any _ _ _ h:∀ (w':World) (u:Value),Q0f w' u [t.err,Q0k true 10] → Calls Tryz.prog 74 #[u] w' fun e w''=>e = .returned (.int .i64 E) ∧ w' = w'')
   rw [hE] at hE0 HE;have hne:(E != 0) = true:=by simp [hE0]
   clear hE hE0;go_wp2_with fail;refine (Q3n _ true 10).mono ?_;rintro e w2 ⟨rfl,rfl⟩;obtain ⟨wh,hwh⟩:∃ x,Q0k true 10 = x:=⟨_,rfl⟩;rw [hwh] at HF ⊢;clear hwh;go_wp2_with fail;refine (HF.out _ _ (Q2m (l:=[t.err,wh]) (by simp))).mono ?_
   rintro e w3 ⟨rfl,hw3⟩;have hx3:Ext w1 w3:=by rw [← hw3]; exact Ext.box w1 _
   clear hw3;have HX3:=Lib.hid hx3;replace hbr:=hbr.ext hx3;clear hx3 c0 c1 c2;go_wp2_with (refine Q0d rfl _ _ 37 rfl Tryz.Q0w rfl rfl hbr rfl rfl ?_ ?_; (focus (intro u hu; simp only [List.mem_cons,List.not_mem_nil,or_false] at hu; rcases hu with rfl | rfl | rfl <;> rfl)); intro w8 hb8 hl8 ho8)
   refine bodyPost_ret (Q0o Tryz.results35 rfl hb8 Tryz.Q2v Tryz.Q0w rfl) rfl ?_;refine ⟨_,by rw [HE.out]; rfl,?_,Below.trans (HXX.out.trans HX3.out) (hl8 _ (by omega))⟩
   rw [HZT.out];exact fun _ _ _ _=>Q7a _
 have HE:Hid (Q1r t k = Q0h [t.err,Q0k false 10]):=by exact (by unfold Q1r; simp [hq0,hq1]:Q1r t k = Q0h [t.err,Q0k false 10])
 have hE0:Q0h [t.err,Q0k false 10] = t.err:=by unfold Q0h; split <;> simp_all [Q0h,Q0k]
 rw [hE0] at HE;obtain ⟨E,hE⟩:∃ E,t.err = E:=⟨_,rfl⟩;have HF:Hid (∀ (w':World) (u:Value),Q0f w' u [E,Q0k false 10] → Calls Tryz.prog 74 #[u] w' fun e w''=>e = .returned (.int .i64 E) ∧ w' = w''):=by
  exact (by intro w' u h; rw [← hE] at h ⊢; have:=first_any _ _ _ h; rw [hE0] at this; exact this:∀ (w':World) (u:Value),Q0f w' u [E,Q0k false 10] → Calls Tryz.prog 74 #[u] w' fun e w''=>e = .returned (.int .i64 E) ∧ w' = w'')
 rw [hE] at HE ⊢;have HEQ:=Lib.hid hE;clear hE hE0;have hq:(decide (k < 0) || decide ((t.causes.length:Int) ≤ k)) = false:=by simp [hq0,hq1]
 go_wp2_with fail;refine (Q3n _ false 10).mono ?_;rintro e w2 ⟨rfl,rfl⟩;obtain ⟨wh,hwh⟩:∃ x,Q0k false 10 = x:=⟨_,rfl⟩;rw [hwh] at HF ⊢;clear hwh;go_wp2_with fail;refine (HF.out _ _ (Q2m (l:=[E,wh]) (by simp))).mono ?_
 rintro e w3 ⟨rfl,hw3⟩;have hx3:Ext w1 w3:=by rw [← hw3]; exact Ext.box w1 _
 clear hw3;have HX3:=Lib.hid hx3;replace hbr:=hbr.ext hx3;have HK0:=Lib.hid (K0.out.ext hx3);have HT3:=Lib.hid (HT.out.ext (HX1.out.trans hx3));clear hx3 c0 c1 c2 HF
 by_cases hE0:E = 0
 · have hne:(E != 0) = false:=by simp [hE0]
   have HWT:Hid (Q2t t k = ⟨t.basics,t.causes.eraseIdx k.toNat,t.gates⟩):=by exact (by unfold Q2t; rw [if_pos (by rw [HE.out,hE0])]:Q2t t k = _)
   have HV:=Lib.hid (Valid.of (HEQ.out.trans hE0));have hfit:=HV.out.fit;obtain ⟨kn,rfl⟩:∃ n:Nat,k = n:=⟨k.toNat,by omega⟩
   have HE0:Hid (Q1r t (kn:Int) = 0):=Lib.hid (HE.out.trans hE0);have hkl:kn < t.causes.length:=by omega
   clear hE0 hq0 hq1;go_wp2_with (refine Q0j rfl _ 37 rfl Tryz.Q2v Tryz.Q0w rfl HK0.out rfl ?_);refine (X1z _ _ t hfit.nb hfit.nc hfit.ng ⟨_,_,_,rfl,HT3.out⟩).mono ?_;rintro e w4 ⟨gb,gc,gg,mc,mg,rfl,hown,hx4⟩;have HX4:=Lib.hid (HX3.out.trans hx4);have HOWN:=Lib.hid hown;replace hbr:=hbr.ext hx4;have hl4:=hx4.size;have HT4:=Lib.hid (HT3.out.ext hx4);clear hown hx4;have HBR:=Lib.hid hbr;clear hbr;go_wp2_with (refine Q0d rfl _ _ 37 rfl Tryz.Q0w rfl rfl (Blk.made _ _ _) rfl rfl ?_ ?_; (focus (intro u hu; simp only [List.mem_cons,List.not_mem_nil,or_false] at hu; rcases hu with rfl | rfl | rfl <;> rfl)); intro w5 hb5 hl5 ho5; refine halted ?_)
   have hx5:Ext w4 w5:=Below.trans (Ext.box w4 _) (hl5 _ (Nat.le_refl _));have HX5:=Lib.hid (HX4.out.trans hx5);have HOWN5:=Lib.hid (HOWN.out.ext hx5);have HT5:=Lib.hid (HT4.out.ext hx5);have HB5:=Lib.hid hb5;have HBR5:=Lib.hid (HBR.out.ext hx5);have hgc:=HOWN.out.cau.lt;have hgc2:=HOWN.out.c;have hnc:=hfit.nc;have hl5s:=hb5.lt;have d1:=hb5.cell 1;simp only [List.getElem?_toArray,List.getElem?_cons_zero,List.getElem?_cons_succ] at d1;have hkk:(kn:Int) + 1 ≤ 9223372036854775807:=by omega
   clear hb5 hl5 ho5 hx5;unfold Q3f;go_wp2_with fail;refine (Y5i w5 gc t.causes.length kn (cF t mc) HOWN5.out.cau hkl hnc (fun i hi=>Y4l (HOWN5.out.mem i hi))).mono ?_;rintro e w6 ⟨rfl,hb6,hl6,ho6⟩;have hw4:w5.heap.size > w4.heap.size:=hl5s;have ngc:w4.heap.size ≠ gc:=Nat.ne_of_gt hgc;have HB6:=Lib.hid (Q1p HB5.out ngc ho6);have HBR6:=Lib.hid (Q1p HBR5.out (Q1i HBR5.out HOWN5.out.cau (by decide)) ho6)
   have HBB6:=Lib.hid (Q1p HOWN5.out.bas (Q1i HOWN5.out.bas HOWN5.out.cau (by decide)) ho6)
   have HBG6:=Lib.hid (Q1p HOWN5.out.gat (Q1i HOWN5.out.gat HOWN5.out.cau (by decide)) ho6)
   have HBC6:=Lib.hid hb6;have HM6:Hid (∀ i,i < t.causes.length → Q0q w6 0 3 (.int .i64) (mc i) (Q0c t.causes i)):=by exact (fun i hi=>Q3i (HOWN5.out.mem i hi) HOWN5.out.cau (by decide) ho6:∀ i,i < t.causes.length → Q0q w6 0 3 (.int .i64) (mc i) (Q0c t.causes i))
   have HI6:Hid (∀ i,i < t.gates.length → Q0q w6 0 3 (.int .i64) (mg i) (Q0l t.gates i)):=by exact (fun i hi=>Q3i (HOWN5.out.inp i hi) HOWN5.out.cau (by decide) ho6:∀ i,i < t.gates.length → Q0q w6 0 3 (.int .i64) (mg i) (Q0l t.gates i))
   have HL6:=Lib.hid hl6;clear hb6 hl6 ho6 d1;go_wp2_with (refine Q1b rfl _ _ 34 rfl Tryz.Y5t (u:=.slice (some ⟨gc,0,none⟩) (t.causes.length - 1) t.causes.length) rfl rfl rfl rfl HB6.out (by show 1 < 3; omega) ?_; intro w7 hb7 hl7 ho7; refine halted ?_)
   have n1:=Q1i HBB6.out HB6.out (by decide)
   have n2:=Q1i HBC6.out HB6.out (by decide)
   have n3:=Q1i HBG6.out HB6.out (by decide)
   have n4:w.heap.size + 1 ≠ w4.heap.size:=Nat.ne_of_lt HBR.out.lt;have HBB7:=Lib.hid (HBB6.out.only n1 ho7);have HBC7:=Lib.hid (HBC6.out.only n2 ho7);have HBG7:=Lib.hid (HBG6.out.only n3 ho7);have HBR7:=Lib.hid (HBR6.out.only n4 ho7);have HM7:Hid (∀ i,i < t.causes.length → Q0q w7 0 3 (.int .i64) (mc i) (Q0c t.causes i)):=by exact (fun i hi=>Q2e (HM6.out i hi) HB6.out (by decide) ho7:∀ i,i < t.causes.length → Q0q w7 0 3 (.int .i64) (mc i) (Q0c t.causes i))
   have HI7:Hid (∀ i,i < t.gates.length → Q0q w7 0 3 (.int .i64) (mg i) (Q0l t.gates i)):=by exact (fun i hi=>Q2e (HI6.out i hi) HB6.out (by decide) ho7:∀ i,i < t.gates.length → Q0q w7 0 3 (.int .i64) (mg i) (Q0l t.gates i))
   have HB7:Hid (Blk w7 w4.heap.size 37 #[.slice (some ⟨gb,0,none⟩) t.basics.length t.basics.length,.slice (some ⟨gc,0,none⟩) (t.causes.length - 1) t.causes.length,.slice (some ⟨gg,0,none⟩) t.gates.length t.gates.length]):=by exact (hb7:Blk w7 w4.heap.size 37 #[.slice (some ⟨gb,0,none⟩) t.basics.length t.basics.length,.slice (some ⟨gc,0,none⟩) (t.causes.length - 1) t.causes.length,.slice (some ⟨gg,0,none⟩) t.gates.length t.gates.length])
   have hx1w:w.heap.size ≤ w3.heap.size:=Nat.le_trans HXX.out.size HX3.out.size;have HX7:Hid (Ext w w7):=by exact (Below.trans (HXX.out.trans HX5.out) (Below.trans (HL6.out w.heap.size (by omega)) (hl7 w.heap.size (by omega))):Ext w w7)
   clear hb7 hl7 ho7 n1 n2 n3 n4;unfold Q3f;go_wp2_with (first | (refine Q0j rfl _ 37 rfl Tryz.Q2v Tryz.Q0w rfl HB7.out rfl ?_) | (refine Q0d rfl _ _ 37 rfl Tryz.Q0w rfl rfl HBR7.out rfl rfl ?_ ?_; (focus (intro u hu; simp only [List.mem_cons,List.not_mem_nil,or_false] at hu; rcases hu with rfl | rfl | rfl <;> rfl)); intro w8 hb8 hl8 ho8))
   have e1:=Q1i HBB7.out HBR7.out (by decide)
   have e2:=Q1i HBC7.out HBR7.out (by decide)
   have e3:=Q1i HBG7.out HBR7.out (by decide)
   have f1:=HBB7.out.only e1 ho8;have f2:=HBC7.out.only e2 ho8;have f3:=HBG7.out.only e3 ho8;refine bodyPost_ret (Q0o Tryz.results35 rfl hb8 Tryz.Q2v Tryz.Q0w rfl) rfl ?_;refine ⟨_,by rw [HE0.out]; rfl,?_,Below.trans HX7.out (hl8 _ (by omega))⟩
   rw [HWT.out];intro wm hwm w9 ho9;replace f1:=X7z (f1.ext hwm) (by decide) ho9
   replace f2:=X7z (f2.ext hwm) (by decide) ho9
   replace f3:=X7z (f3.ext hwm) (by decide) ho9
   have HM8:∀ i,i < t.causes.length → Q0f w9 (mc i) (Q0c t.causes i):=fun i hi=>(Y5k ((Q2e (HM7.out i hi) HBR7.out (by decide) ho8).below hwm) (by decide) ho9).ints (HT.out.causes.short hi).2
   have HI8:∀ i,i < t.gates.length → Q0f w9 (mg i) (Q0l t.gates i):=fun i hi=>(Y5k ((Q2e (HI7.out i hi) HBR7.out (by decide) ho8).below hwm) (by decide) ho9).ints (HT.out.gates.short hi).2
   refine ⟨_,_,_,rfl,⟨?_,?_,?_⟩⟩
   · exact Q6t f1 (Nat.le_refl _) hfit.nb fun i hi=>⟨rfl,HT.out.basics.short hi⟩
   · have hle:(t.causes.eraseIdx kn).length = t.causes.length - 1:=List.length_eraseIdx_of_lt hkl
     have:=Q6n (l:=t.causes.eraseIdx kn) f2 (by omega) (by omega) fun i hi=>by
      have hd:=X0a t.causes kn i hi;unfold cName Q1d Q0c;rw [hd];rw [hle] at hi;unfold Z5v
      by_cases hik:i < kn
      · rw [if_pos hik,if_pos hik]
        exact ⟨_,rfl,HM8 i (by omega),(HT.out.causes.short (by omega)).1⟩
      · rw [if_neg hik,if_neg hik,if_pos hi]
        exact ⟨_,rfl,HM8 (i + 1) (by omega),(HT.out.causes.short (by omega)).1⟩
     rw [hle] at this;exact this
   · exact Q8b f3 (Nat.le_refl _) hfit.ng fun i hi=>⟨_,rfl,HI8 i hi,(HT.out.gates.short hi).1⟩
 · have hne:(E != 0) = true:=by simp [hE0]
   have HZT:Hid (Q2t t k = ⟨[],[],[]⟩):=by exact (by unfold Q2t; rw [if_neg (by rw [HE.out]; exact hE0)]:Q2t t k = ⟨[],[],[]⟩)
   go_wp2_with (refine Q0d rfl _ _ 37 rfl Tryz.Q0w rfl rfl hbr rfl rfl ?_ ?_; (focus (intro u hu; simp only [List.mem_cons,List.not_mem_nil,or_false] at hu; rcases hu with rfl | rfl | rfl <;> rfl)); intro w8 hb8 hl8 ho8)
   refine bodyPost_ret (Q0o Tryz.results35 rfl hb8 Tryz.Q2v Tryz.Q0w rfl) rfl ?_;refine ⟨_,by rw [HE.out]; rfl,?_,Below.trans (HXX.out.trans HX3.out) (hl8 _ (by omega))⟩
   rw [HZT.out];exact fun _ _ _ _=>Q7a _
theorem Y0u (w:World) (v:Value) (t:Tree) (k:Int) (ht:IsTree w v t) (hk1:-9223372036854775808 ≤ k) (hk2:k ≤ 9223372036854775807) :
    Calls Tryz.prog 35 #[v,.int .i64 k] w fun e w'=>∃ u,e = .returned (.tuple #[u,.int .i64 (Q1r t k)]) ∧ IsTree w' u (Q2t t k) ∧ Ext w w' :=
 (X3b w v t k ht hk1 hk2).mono fun _ _ ⟨u,h1,h2,h3⟩=>⟨u,h1,h2.is,h3⟩
end Go.Proofs
