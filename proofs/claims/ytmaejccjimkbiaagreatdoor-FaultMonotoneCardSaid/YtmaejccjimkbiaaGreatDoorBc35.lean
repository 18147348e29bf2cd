/- A copied tree read as a tree; contract: Without. -/
import Derived.Test.YtmaejccjimkbiaaGreatDoorBc34
import Derived.Test.YtmaejccjimkbiaaGreatDoorBc30
set_option linter.unusedVariables false
set_option linter.unusedSimpArgs false
set_option linter.constructorNameAsVariable false
namespace Go.Tw
open Go.RowKit Go.Flow
theorem wpList_store_cell {P:Program} {w:World} {ops:Array Oper} {rest:List Oper} {o:Oper} {a:Act} {Q:Exit → Act → World → Prop} (hg:o.guard = none) (p x:Operand) (T:TypeId) (hop:o.op = .store T p x)
    (hT:∀ w,(sizeOf T).run P w = .ok 1 w) {g k:Nat} (hp:a.eval p = .pointer (some ⟨g,k,none⟩)) {u:Value} (hx:a.eval x = u) (hu:u.cells = #[u]) (h1:u.oneCell' = true) {BT:TypeId} {cs:Array Value} (hb:Blk w g BT cs) (hk:k < cs.size)
    (hK:∀ w',Blk w' g BT (cs.setIfInBounds k u) → (∀ n,n ≤ g → Below n w w') → (∀ k,k ≠ g → w'.heap[k]? = w.heap[k]?) → wpList P ops Q rest (a.put o.dst undef) w'):wpList P ops Q (o :: rest) a w:=by
 refine wpList_plain hg fun K' hK'=>?_
 unfold Oper.wp
 have h0:=hb.cell k
 rw [Array.getElem?_eq_getElem hk] at h0
 have hs:(storeVar T ⟨g,k,none⟩ u).run P w = .ok () (w.setCell ⟨g,k,none⟩ u):=by
  unfold storeVar
  simp only [Sem.run_bind,hT,Result.andThen_ok,hu]
  rw [if_neg (by simp)]
  simp only [storeCells,Sem.run_bind,Sem.run_pure]
  have ea:(⟨g,k,none⟩:Addr).add 0 = ⟨g,k,none⟩:=by rw [addr_add,Nat.add_zero]
  rw [ea,run_store P w _ u _ h1]
  simp only [h0,hb.frozen k,Bool.false_eq_true,if_false,Result.andThen_ok]
 have hr2:(execOp a.eval o).run P w = .ok .skip (w.setCell ⟨g,k,none⟩ u):=by
  unfold execOp
  simp only [hop,hp,hx,Instr.storeAt,Instr.sureAddr,Sem.run_bind,Sem.run_pure,Result.andThen_ok,hs]
 rw [hr2]
 exact hK' _ _ (hK _ (hb.set k u) (fun n hn=>(Below.refl n w).setCell (p:=⟨g,k,none⟩) hn u) (fun k' hk'=>Below.heap_setCell _ _ _ _ hk'))
end Go.Tw
namespace Go.Proofs
open Go.RowKit Go.Tw Go.Flow
theorem Tryz.sizeCauses (w:World):(sizeOf 34).run Tryz.prog w = .ok 1 w:=by kernel_rfl
theorem OwnT.ext {w w':World} {base:Nat} {t:Tree} {gb gc gg:Nat} {mc mg:Nat → Value} (h:OwnT w base t gb gc gg mc mg) (hx:Ext w w'):OwnT w' base t gb gc gg mc mg :=
 ⟨h.bas.ext hx,h.cau.ext hx,h.gat.ext hx,fun i hi=>(h.mem i hi).below hx,fun i hi=>(h.inp i hi).below hx,h.b,h.c,h.g⟩
theorem own1_one {w:World} {v:Value} {l:List Int} (h:Own1 w 0 3 (.int .i64) v l):v.oneCell' = true:=by
 obtain ⟨A,c,rfl,_⟩:=h.cells
 rfl
theorem blk_onlyLt {w w':World} {a g:Nat} {T:TypeId} {cs:Array Value} (h:Blk w a T cs) (hne:a ≠ g) (ho:∀ b,b < w.heap.size → b ≠ g → w'.heap[b]? = w.heap[b]?):Blk w' a T cs:=by
 have hl:=h.lt
 unfold Blk at *; rw [ho a hl hne]; exact h
theorem own1_onlyLt {w w':World} {v:Value} {l:List Int} {g:Nat} {T:TypeId} {cs:Array Value} (h:Own1 w 0 3 (.int .i64) v l) (hb:Blk w g T cs) (hT:T ≠ 3) (ho:∀ b,b < w.heap.size → b ≠ g → w'.heap[b]? = w.heap[b]?):Own1 w' 0 3 (.int .i64) v l :=
 own1_at h fun b hv hl=>ho b hl fun e=>own1_offT hT h hb (by rw [hv,e])
theorem del_name (l:List Cause) (k i:Nat) (hi:i < (l.eraseIdx k).length):(l.eraseIdx k).getD i default = l.getD (if i < k then i else i + 1) default:=by
 rw [List.getD_eq_getElem?_getD,List.getD_eq_getElem?_getD,List.getElem?_eraseIdx]
 split <;> rfl
theorem rows_flat {α β:Type} {enc:α → List Value} {k:Nat} (hk:∀ x,(enc x).length = k) {R:World → (Nat → Value) → β → Prop} {w:World} {g n cap:Nat} {T:TypeId} {f:Nat → α} {l:List β} (hb:Blk w g T (flatF enc n f)) (hl:l.length ≤ n) (hl2:l.length ≤ 17592186043904) (hcap:l.length ≤ cap)
    (hR:∀ c j (h:j < l.length),(∀ i,i < k → (enc (f j))[i]? = some (c i)) → R w c l[j]):Go.Tw.Rows k R w (.slice (some ⟨g,0,none⟩) l.length cap) l:=by
 have hs:=flatF_size hk n f
 refine ⟨fun j=>((flatF enc n f)[j]?).getD undef,⟨_,_,rfl,hl2,hcap,fun j hj=>⟨g,0,rfl,?_⟩⟩,fun j hj=>hR _ _ hj fun i hi=>?_⟩
 · rw [hb.cell,Nat.zero_add]
   have:j < (flatF enc n f).size:=by rw [hs]; exact Nat.lt_of_lt_of_le hj (Nat.mul_le_mul_right k hl)
   simp only [Array.getElem?_eq_getElem this,Option.getD_some]
 · show _ = some (((flatF enc n f)[j * k + i]?).getD undef)
   rw [flatF_get hk _ (Nat.lt_of_lt_of_le hj hl) hi]
   have:i < (enc (f j)).length:=by rw [hk]; exact hi
   simp only [List.getElem?_eq_getElem this,Option.getD_some]
theorem getD_at {α:Type} [Inhabited α] {l:List α} {k:Nat} (h:k < l.length):l.getD k default = l[k]:=by simp [h]
theorem basics_flat {w:World} {g n:Nat} {T:TypeId} {f:Nat → ByteArray × Int} {l:List Basic} (hb:Blk w g T (flatF enc2 n f)) (hl:l.length ≤ n) (hl2:l.length ≤ 1000) (hf:∀ i,i < l.length → f i = (bName l i,bChance l i) ∧ Short (bName l i)) :
    IsBasics w (.slice (some ⟨g,0,none⟩) l.length n) l :=
 rows_flat enc2_len hb hl (by omega) hl fun c j h hc=>by
  obtain ⟨h1,h2⟩:=hf j h
  have e:l.getD j default = l[j]:=getD_at h
  have c0:=hc 0 (by omega)
  have c1:=hc 1 (by omega)
  rw [h1] at c0 c1
  unfold bName bChance at *
  rw [e] at c0 c1 h2
  simp only [enc2,List.getElem?_cons_zero,List.getElem?_cons_succ,Option.some.injEq] at c0 c1
  exact ⟨c0.symm,c1.symm,h2⟩
theorem causes_flat {w:World} {g n:Nat} {T:TypeId} {f:Nat → ByteArray × Int × Value} {l:List Cause} (hb:Blk w g T (flatF enc3 n f)) (hl:l.length ≤ n) (hl2:l.length ≤ 1000) (hf:∀ i,i < l.length → ∃ m,f i = (cName l i,cChance l i,m) ∧ IsInts w m (cMembers l i) ∧ Short (cName l i)) :
    IsCauses w (.slice (some ⟨g,0,none⟩) l.length n) l :=
 rows_flat enc3_len hb hl (by omega) hl fun c j h hc=>by
  obtain ⟨m,h1,hm,h2⟩:=hf j h
  have e:l.getD j default = l[j]:=getD_at h
  have c0:=hc 0 (by omega)
  have c1:=hc 1 (by omega)
  have c2:=hc 2 (by omega)
  rw [h1] at c0 c1 c2
  unfold cName cChance cMembers at *
  rw [e] at c0 c1 c2 h2 hm
  simp only [enc3,List.getElem?_cons_zero,List.getElem?_cons_succ,Option.some.injEq] at c0 c1 c2
  exact ⟨c0.symm,c1.symm,c2 ▸ hm,h2⟩
theorem gates_flat {w:World} {g n:Nat} {T:TypeId} {f:Nat → ByteArray × Int × Value} {l:List Gate} (hb:Blk w g T (flatF enc3 n f)) (hl:l.length ≤ n) (hl2:l.length ≤ 1000) (hf:∀ i,i < l.length → ∃ m,f i = (gKind l i,gNeed l i,m) ∧ IsInts w m (gInputs l i) ∧ Short (gKind l i)) :
    IsGates w (.slice (some ⟨g,0,none⟩) l.length n) l :=
 rows_flat enc3_len hb hl (by omega) hl fun c j h hc=>by
  obtain ⟨m,h1,hm,h2⟩:=hf j h
  have e:l.getD j default = l[j]:=getD_at h
  have c0:=hc 0 (by omega)
  have c1:=hc 1 (by omega)
  have c2:=hc 2 (by omega)
  rw [h1] at c0 c1 c2
  unfold gKind gNeed gInputs at *
  rw [e] at c0 c1 c2 h2 hm
  simp only [enc3,List.getElem?_cons_zero,List.getElem?_cons_succ,Option.some.injEq] at c0 c1 c2
  exact ⟨c0.symm,c1.symm,c2 ▸ hm,h2⟩
theorem _root_.Go.Tw.IsBasics.short {w:World} {v:Value} {l:List Basic} (h:IsBasics w v l) {k:Nat} (hk:k < l.length):Short (bName l k):=by
 obtain ⟨_,_,_,_,_,hc⟩:=h.opened
 obtain ⟨_,_,_,_,_,_,hs⟩:=hc k hk
 exact hs
theorem _root_.Go.Tw.IsCauses.short {w:World} {v:Value} {l:List Cause} (h:IsCauses w v l) {k:Nat} (hk:k < l.length):Short (cName l k) ∧ (cMembers l k).length ≤ 17592186043904:=by
 obtain ⟨_,_,_,_,_,hc⟩:=h.opened
 obtain ⟨_,_,_,_,_,_,_,_,hm,hs⟩:=hc k hk
 obtain ⟨_,_,_,hl,_⟩:=hm.opened
 exact ⟨hs,hl⟩
theorem _root_.Go.Tw.IsGates.short {w:World} {v:Value} {l:List Gate} (h:IsGates w v l) {k:Nat} (hk:k < l.length):Short (gKind l k) ∧ (gInputs l k).length ≤ 17592186043904:=by
 obtain ⟨_,_,_,_,_,hc⟩:=h.opened
 obtain ⟨_,_,_,_,_,_,_,_,hm,hs⟩:=hc k hk
 obtain ⟨_,_,_,hl,_⟩:=hm.opened
 exact ⟨hs,hl⟩
def withoutErr (t:Tree) (k:Int):Int:=firstErr [t.err,whenI (decide (k < 0) || decide ((t.causes.length:Int) ≤ k)) 10]
def withoutT (t:Tree) (k:Int):Tree:=if withoutErr t k = 0 then ⟨t.basics,t.causes.eraseIdx k.toNat,t.gates⟩ else ⟨[],[],[]⟩
def zTree:Value:=.agg #[.slice none 0 0,.slice none 0 0,.slice none 0 0]
theorem zTree_is (w:World):IsTree w zTree ⟨[],[],[]⟩:=⟨_,_,_,rfl,⟨Go.Tw.Rows.nil _ _ _,Go.Tw.Rows.nil _ _ _,Go.Tw.Rows.nil _ _ _⟩⟩
set_option maxRecDepth 100000 in
set_option maxHeartbeats 2000000 in
theorem pWithout_any (w:World) (v:Value) (t:Tree) (k:Int) (ht:IsTree w v t) (hk1:-9223372036854775808 ≤ k) (hk2:k ≤ 9223372036854775807) :
    Calls Tryz.prog 35 #[v,.int .i64 k] w fun e w'=>∃ u,e = .returned (.tuple #[u,.int .i64 (withoutErr t k)]) ∧ IsTree w' u (withoutT t k) ∧ Ext w w':=by
 obtain ⟨a,b,c,rfl,h3⟩:=ht
 obtain ⟨A,capa,rfl,hl1,hcap1,_⟩:=h3.basics.opened
 obtain ⟨B,capb,rfl,hl2,hcap2,_⟩:=h3.causes.opened
 obtain ⟨G,capg,rfl,hl3,hcap3,_⟩:=h3.gates.opened
 have HT0:=Lib.hid h3
 clear h3
 go_enter Tryz.func35,Tryz.ntmps35
 go_wp2_with fail
 change Calls _ _ _ ((w.alloc (.cells #[.slice A t.basics.length capa,.slice B t.causes.length capb,.slice G t.gates.length capg] 37)).alloc (.cells #[.slice none 0 0,.slice none 0 0,.slice none 0 0] 37)) _
 have k0:=Blk.made w 37 #[.slice A t.basics.length capa,.slice B t.causes.length capb,.slice G t.gates.length capg]
 have x0:=Ext.box w (.cells #[.slice A t.basics.length capa,.slice B t.causes.length capb,.slice G t.gates.length capg] 37)
 have es0:(w.alloc (.cells #[.slice A t.basics.length capa,.slice B t.causes.length capb,.slice G t.gates.length capg] 37)).heap.size = w.heap.size + 1:=by simp
 obtain ⟨X0,hX0⟩:∃ X,w.alloc (.cells #[.slice A t.basics.length capa,.slice B t.causes.length capb,.slice G t.gates.length capg] 37) = X:=⟨_,rfl⟩
 rw [hX0] at k0 x0 es0 ⊢
 clear hX0
 have k1:=Blk.made X0 37 #[.slice none 0 0,.slice none 0 0,.slice none 0 0]
 have x1:=Ext.box X0 (.cells #[.slice none 0 0,.slice none 0 0,.slice none 0 0] 37)
 have es1:(X0.alloc (.cells #[.slice none 0 0,.slice none 0 0,.slice none 0 0] 37)).heap.size = X0.heap.size + 1:=by simp
 obtain ⟨X1,hX1⟩:∃ X,X0.alloc (.cells #[.slice none 0 0,.slice none 0 0,.slice none 0 0] 37) = X:=⟨_,rfl⟩
 rw [hX1] at k1 x1 es1 ⊢
 clear hX1
 replace k0:=k0.ext x1
 have e0:X0.heap.size = w.heap.size + 1:=by omega
 have e1:X1.heap.size = w.heap.size + 1 + 1:=by omega
 rw [e0] at k1
 have HXW:Hid (Ext w X1):=by exact (Ext.trans (x0) x1:Ext w X1)
 have eW:X1.heap.size = w.heap.size + 1 + 1:=e1
 clear x0 es0 e0 x1 es1 e1
 obtain ⟨W,hWW⟩:∃ W,X1 = W:=⟨_,rfl⟩
 rw [hWW] at HXW eW ⊢ k0 k1
 clear hWW
 have HT:=Lib.hid (HT0.out.ext HXW.out)
 refine (CheckTree_any _ _ t ⟨_,_,_,rfl,HT.out⟩).mono ?_
 rintro e w1 ⟨rfl,hx1⟩
 have kt:=k0.ext hx1
 have c0:=kt.cell 0
 have c1:=kt.cell 1
 have c2:=kt.cell 2
 simp only [List.getElem?_toArray,List.getElem?_cons_zero,List.getElem?_cons_succ] at c0 c1 c2
 have HXX:=Lib.hid (HXW.out.trans hx1)
 have HX1:=Lib.hid hx1
 clear kt hx1
 have hbr:=k1.ext HX1.out
 have K0:=Lib.hid (k0.ext HX1.out)
 clear k0 k1
 by_cases hq0:k < 0
 · have HE:Hid (withoutErr t k = firstErr [t.err,whenI true 10]):=by exact (by unfold withoutErr; simp [hq0]:withoutErr t k = firstErr [t.err,whenI true 10])
   have hE0:firstErr [t.err,whenI true 10] ≠ 0:=by unfold firstErr; split <;> simp_all [firstErr,whenI]
   have HZT:Hid (withoutT t k = ⟨[],[],[]⟩):=by exact (by unfold withoutT; rw [if_neg (by rw [HE.out]; exact hE0)]:withoutT t k = ⟨[],[],[]⟩)
   obtain ⟨E,hE⟩:∃ E,firstErr [t.err,whenI true 10] = E:=⟨_,rfl⟩
   have HF:Hid (∀ (w':World) (u:Value),IsInts w' u [t.err,whenI true 10] → Calls Tryz.prog 74 #[u] w' fun e w''=>e = .returned (.int .i64 E) ∧ w' = w''):=by
    exact (by intro w' u h; rw [← hE]; exact first_any _ _ _ h:∀ (w':World) (u:Value),IsInts w' u [t.err,whenI true 10] → Calls Tryz.prog 74 #[u] w' fun e w''=>e = .returned (.int .i64 E) ∧ w' = w'')
   rw [hE] at hE0 HE
   have hne:(E != 0) = true:=by simp [hE0]
   clear hE hE0
   go_wp2_with fail
   refine (when_any _ true 10).mono ?_
   rintro e w2 ⟨rfl,rfl⟩
   obtain ⟨wh,hwh⟩:∃ x,whenI true 10 = x:=⟨_,rfl⟩
   rw [hwh] at HF ⊢
   clear hwh
   go_wp2_with fail
   refine (HF.out _ _ (ints_new (l:=[t.err,wh]) (by simp))).mono ?_
   rintro e w3 ⟨rfl,hw3⟩
   have hx3:Ext w1 w3:=by rw [← hw3]; exact Ext.box w1 _
   clear hw3
   have HX3:=Lib.hid hx3
   replace hbr:=hbr.ext hx3
   clear hx3 c0 c1 c2
   go_wp2_with (refine wpList_store_blk rfl _ _ 37 rfl Tryz.sizeTree rfl rfl hbr rfl rfl ?_ ?_; (focus (intro u hu; simp only [List.mem_cons,List.not_mem_nil,or_false] at hu; rcases hu with rfl | rfl | rfl <;> rfl)); intro w8 hb8 hl8 ho8)
   refine bodyPost_ret (results_blk_tmp Tryz.results35 rfl hb8 Tryz.aggTree Tryz.sizeTree rfl) rfl ?_
   refine ⟨_,by rw [HE.out]; rfl,?_,Below.trans (HXX.out.trans HX3.out) (hl8 _ (by omega))⟩
   rw [HZT.out]
   exact zTree_is _
 by_cases hq1:(t.causes.length:Int) ≤ k
 · have HE:Hid (withoutErr t k = firstErr [t.err,whenI true 10]):=by exact (by unfold withoutErr; simp [hq0,hq1]:withoutErr t k = firstErr [t.err,whenI true 10])
   have hE0:firstErr [t.err,whenI true 10] ≠ 0:=by unfold firstErr; split <;> simp_all [firstErr,whenI]
   have HZT:Hid (withoutT t k = ⟨[],[],[]⟩):=by exact (by unfold withoutT; rw [if_neg (by rw [HE.out]; exact hE0)]:withoutT t k = ⟨[],[],[]⟩)
   obtain ⟨E,hE⟩:∃ E,firstErr [t.err,whenI true 10] = E:=⟨_,rfl⟩
   have HF:Hid (∀ (w':World) (u:Value),IsInts w' u [t.err,whenI true 10] → Calls Tryz.prog 74 #[u] w' fun e w''=>e = .returned (.int .i64 E) ∧ w' = w''):=by
    exact (by intro w' u h; rw [← hE]; exact first_any _ _ _ h:∀ (w':World) (u:Value),IsInts w' u [t.err,whenI true 10] → Calls Tryz.prog 74 #[u] w' fun e w''=>e = .returned (.int .i64 E) ∧ w' = w'')
   rw [hE] at hE0 HE
   have hne:(E != 0) = true:=by simp [hE0]
   clear hE hE0
   go_wp2_with fail
   refine (when_any _ true 10).mono ?_
   rintro e w2 ⟨rfl,rfl⟩
   obtain ⟨wh,hwh⟩:∃ x,whenI true 10 = x:=⟨_,rfl⟩
   rw [hwh] at HF ⊢
   clear hwh
   go_wp2_with fail
   refine (HF.out _ _ (ints_new (l:=[t.err,wh]) (by simp))).mono ?_
   rintro e w3 ⟨rfl,hw3⟩
   have hx3:Ext w1 w3:=by rw [← hw3]; exact Ext.box w1 _
   clear hw3
   have HX3:=Lib.hid hx3
   replace hbr:=hbr.ext hx3
   clear hx3 c0 c1 c2
   go_wp2_with (refine wpList_store_blk rfl _ _ 37 rfl Tryz.sizeTree rfl rfl hbr rfl rfl ?_ ?_; (focus (intro u hu; simp only [List.mem_cons,List.not_mem_nil,or_false] at hu; rcases hu with rfl | rfl | rfl <;> rfl)); intro w8 hb8 hl8 ho8)
   refine bodyPost_ret (results_blk_tmp Tryz.results35 rfl hb8 Tryz.aggTree Tryz.sizeTree rfl) rfl ?_
   refine ⟨_,by rw [HE.out]; rfl,?_,Below.trans (HXX.out.trans HX3.out) (hl8 _ (by omega))⟩
   rw [HZT.out]
   exact zTree_is _
 have HE:Hid (withoutErr t k = firstErr [t.err,whenI false 10]):=by exact (by unfold withoutErr; simp [hq0,hq1]:withoutErr t k = firstErr [t.err,whenI false 10])
 have hE0:firstErr [t.err,whenI false 10] = t.err:=by unfold firstErr; split <;> simp_all [firstErr,whenI]
 rw [hE0] at HE
 obtain ⟨E,hE⟩:∃ E,t.err = E:=⟨_,rfl⟩
 have HF:Hid (∀ (w':World) (u:Value),IsInts w' u [E,whenI false 10] → Calls Tryz.prog 74 #[u] w' fun e w''=>e = .returned (.int .i64 E) ∧ w' = w''):=by
  exact (by intro w' u h; rw [← hE] at h ⊢; have:=first_any _ _ _ h; rw [hE0] at this; exact this:∀ (w':World) (u:Value),IsInts w' u [E,whenI false 10] → Calls Tryz.prog 74 #[u] w' fun e w''=>e = .returned (.int .i64 E) ∧ w' = w'')
 rw [hE] at HE ⊢
 have HEQ:=Lib.hid hE
 clear hE hE0
 have hq:(decide (k < 0) || decide ((t.causes.length:Int) ≤ k)) = false:=by simp [hq0,hq1]
 go_wp2_with fail
 refine (when_any _ false 10).mono ?_
 rintro e w2 ⟨rfl,rfl⟩
 obtain ⟨wh,hwh⟩:∃ x,whenI false 10 = x:=⟨_,rfl⟩
 rw [hwh] at HF ⊢
 clear hwh
 go_wp2_with fail
 refine (HF.out _ _ (ints_new (l:=[E,wh]) (by simp))).mono ?_
 rintro e w3 ⟨rfl,hw3⟩
 have hx3:Ext w1 w3:=by rw [← hw3]; exact Ext.box w1 _
 clear hw3
 have HX3:=Lib.hid hx3
 replace hbr:=hbr.ext hx3
 have HK0:=Lib.hid (K0.out.ext hx3)
 have HT3:=Lib.hid (HT.out.ext (HX1.out.trans hx3))
 clear hx3 c0 c1 c2 HF
 by_cases hE0:E = 0
 · have hne:(E != 0) = false:=by simp [hE0]
   have HWT:Hid (withoutT t k = ⟨t.basics,t.causes.eraseIdx k.toNat,t.gates⟩):=by exact (by unfold withoutT; rw [if_pos (by rw [HE.out,hE0])]:withoutT t k = _)
   have HV:=Lib.hid (Valid.of (HEQ.out.trans hE0))
   have hfit:=HV.out.fit
   obtain ⟨kn,rfl⟩:∃ n:Nat,k = n:=⟨k.toNat,by omega⟩
   have HE0:Hid (withoutErr t (kn:Int) = 0):=Lib.hid (HE.out.trans hE0)
   have hkl:kn < t.causes.length:=by omega
   clear hE0 hq0 hq1
   go_wp2_with (refine wpList_load_blk rfl _ 37 rfl Tryz.aggTree Tryz.sizeTree rfl HK0.out rfl ?_)
   refine (copied_any _ _ t hfit.nb hfit.nc hfit.ng ⟨_,_,_,rfl,HT3.out⟩).mono ?_
   rintro e w4 ⟨gb,gc,gg,mc,mg,rfl,hown,hx4⟩
   have HX4:=Lib.hid (HX3.out.trans hx4)
   have HOWN:=Lib.hid hown
   replace hbr:=hbr.ext hx4
   have hl4:=hx4.size
   have HT4:=Lib.hid (HT3.out.ext hx4)
   clear hown hx4
   have HBR:=Lib.hid hbr
   clear hbr
   go_wp2_with (refine wpList_store_blk rfl _ _ 37 rfl Tryz.sizeTree rfl rfl (Blk.made _ _ _) rfl rfl ?_ ?_; (focus (intro u hu; simp only [List.mem_cons,List.not_mem_nil,or_false] at hu; rcases hu with rfl | rfl | rfl <;> rfl)); intro w5 hb5 hl5 ho5; refine halted ?_)
   have hx5:Ext w4 w5:=Below.trans (Ext.box w4 _) (hl5 _ (Nat.le_refl _))
   have HX5:=Lib.hid (HX4.out.trans hx5)
   have HOWN5:=Lib.hid (HOWN.out.ext hx5)
   have HT5:=Lib.hid (HT4.out.ext hx5)
   have HB5:=Lib.hid hb5
   have HBR5:=Lib.hid (HBR.out.ext hx5)
   have hgc:=HOWN.out.cau.lt
   have hgc2:=HOWN.out.c
   have hnc:=hfit.nc
   have hl5s:=hb5.lt
   have d1:=hb5.cell 1
   simp only [List.getElem?_toArray,List.getElem?_cons_zero,List.getElem?_cons_succ] at d1
   have hkk:(kn:Int) + 1 ≤ 9223372036854775807:=by omega
   clear hb5 hl5 ho5 hx5
   unfold Halted
   go_wp2_with fail
   refine (delete_any w5 gc t.causes.length kn (cF t mc) HOWN5.out.cau hkl hnc (fun i hi=>own1_one (HOWN5.out.mem i hi))).mono ?_
   rintro e w6 ⟨rfl,hb6,hl6,ho6⟩
   have hw4:w5.heap.size > w4.heap.size:=hl5s
   have ngc:w4.heap.size ≠ gc:=Nat.ne_of_gt hgc
   have HB6:=Lib.hid (blk_onlyLt HB5.out ngc ho6)
   have HBR6:=Lib.hid (blk_onlyLt HBR5.out (blk_ne HBR5.out HOWN5.out.cau (by decide)) ho6)
   have HBB6:=Lib.hid (blk_onlyLt HOWN5.out.bas (blk_ne HOWN5.out.bas HOWN5.out.cau (by decide)) ho6)
   have HBG6:=Lib.hid (blk_onlyLt HOWN5.out.gat (blk_ne HOWN5.out.gat HOWN5.out.cau (by decide)) ho6)
   have HBC6:=Lib.hid hb6
   have HM6:Hid (∀ i,i < t.causes.length → Own1 w6 0 3 (.int .i64) (mc i) (cMembers t.causes i)):=by exact (fun i hi=>own1_onlyLt (HOWN5.out.mem i hi) HOWN5.out.cau (by decide) ho6:∀ i,i < t.causes.length → Own1 w6 0 3 (.int .i64) (mc i) (cMembers t.causes i))
   have HI6:Hid (∀ i,i < t.gates.length → Own1 w6 0 3 (.int .i64) (mg i) (gInputs t.gates i)):=by exact (fun i hi=>own1_onlyLt (HOWN5.out.inp i hi) HOWN5.out.cau (by decide) ho6:∀ i,i < t.gates.length → Own1 w6 0 3 (.int .i64) (mg i) (gInputs t.gates i))
   have HL6:=Lib.hid hl6
   clear hb6 hl6 ho6 d1
   go_wp2_with (refine wpList_store_cell rfl _ _ 34 rfl Tryz.sizeCauses (u:=.slice (some ⟨gc,0,none⟩) (t.causes.length - 1) t.causes.length) rfl rfl rfl rfl HB6.out (by show 1 < 3; omega) ?_; intro w7 hb7 hl7 ho7; refine halted ?_)
   have n1:=blk_ne HBB6.out HB6.out (by decide)
   have n2:=blk_ne HBC6.out HB6.out (by decide)
   have n3:=blk_ne HBG6.out HB6.out (by decide)
   have n4:w.heap.size + 1 ≠ w4.heap.size:=Nat.ne_of_lt HBR.out.lt
   have HBB7:=Lib.hid (HBB6.out.only n1 ho7)
   have HBC7:=Lib.hid (HBC6.out.only n2 ho7)
   have HBG7:=Lib.hid (HBG6.out.only n3 ho7)
   have HBR7:=Lib.hid (HBR6.out.only n4 ho7)
   have HM7:Hid (∀ i,i < t.causes.length → Own1 w7 0 3 (.int .i64) (mc i) (cMembers t.causes i)):=by exact (fun i hi=>own1_only (HM6.out i hi) HB6.out (by decide) ho7:∀ i,i < t.causes.length → Own1 w7 0 3 (.int .i64) (mc i) (cMembers t.causes i))
   have HI7:Hid (∀ i,i < t.gates.length → Own1 w7 0 3 (.int .i64) (mg i) (gInputs t.gates i)):=by exact (fun i hi=>own1_only (HI6.out i hi) HB6.out (by decide) ho7:∀ i,i < t.gates.length → Own1 w7 0 3 (.int .i64) (mg i) (gInputs t.gates i))
   have HB7:Hid (Blk w7 w4.heap.size 37 #[.slice (some ⟨gb,0,none⟩) t.basics.length t.basics.length,.slice (some ⟨gc,0,none⟩) (t.causes.length - 1) t.causes.length,.slice (some ⟨gg,0,none⟩) t.gates.length t.gates.length]):=by exact (hb7:Blk w7 w4.heap.size 37 #[.slice (some ⟨gb,0,none⟩) t.basics.length t.basics.length,.slice (some ⟨gc,0,none⟩) (t.causes.length - 1) t.causes.length,.slice (some ⟨gg,0,none⟩) t.gates.length t.gates.length])
   have hx1w:w.heap.size ≤ w3.heap.size:=Nat.le_trans HXX.out.size HX3.out.size
   have HX7:Hid (Ext w w7):=by exact (Below.trans (HXX.out.trans HX5.out) (Below.trans (HL6.out w.heap.size (by omega)) (hl7 w.heap.size (by omega))):Ext w w7)
   clear hb7 hl7 ho7 n1 n2 n3 n4
   unfold Halted
   go_wp2_with (first | (refine wpList_load_blk rfl _ 37 rfl Tryz.aggTree Tryz.sizeTree rfl HB7.out rfl ?_) | (refine wpList_store_blk rfl _ _ 37 rfl Tryz.sizeTree rfl rfl HBR7.out rfl rfl ?_ ?_; (focus (intro u hu; simp only [List.mem_cons,List.not_mem_nil,or_false] at hu; rcases hu with rfl | rfl | rfl <;> rfl)); intro w8 hb8 hl8 ho8))
   have e1:=blk_ne HBB7.out HBR7.out (by decide)
   have e2:=blk_ne HBC7.out HBR7.out (by decide)
   have e3:=blk_ne HBG7.out HBR7.out (by decide)
   have f1:=HBB7.out.only e1 ho8
   have f2:=HBC7.out.only e2 ho8
   have f3:=HBG7.out.only e3 ho8
   have HM8:∀ i,i < t.causes.length → IsInts w8 (mc i) (cMembers t.causes i):=fun i hi=>(own1_only (HM7.out i hi) HBR7.out (by decide) ho8).ints (HT.out.causes.short hi).2
   have HI8:∀ i,i < t.gates.length → IsInts w8 (mg i) (gInputs t.gates i):=fun i hi=>(own1_only (HI7.out i hi) HBR7.out (by decide) ho8).ints (HT.out.gates.short hi).2
   refine bodyPost_ret (results_blk_tmp Tryz.results35 rfl hb8 Tryz.aggTree Tryz.sizeTree rfl) rfl ?_
   refine ⟨_,by rw [HE0.out]; rfl,?_,Below.trans HX7.out (hl8 _ (by omega))⟩
   rw [HWT.out]
   refine ⟨_,_,_,rfl,⟨?_,?_,?_⟩⟩
   · exact basics_flat f1 (Nat.le_refl _) hfit.nb fun i hi=>⟨rfl,HT.out.basics.short hi⟩
   · have hle:(t.causes.eraseIdx kn).length = t.causes.length - 1:=List.length_eraseIdx_of_lt hkl
     have:=causes_flat (l:=t.causes.eraseIdx kn) f2 (by omega) (by omega) fun i hi=>by
      have hd:=del_name t.causes kn i hi
      unfold cName cChance cMembers
      rw [hd]
      rw [hle] at hi
      unfold delF
      by_cases hik:i < kn
      · rw [if_pos hik,if_pos hik]
        exact ⟨_,rfl,HM8 i (by omega),(HT.out.causes.short (by omega)).1⟩
      · rw [if_neg hik,if_neg hik,if_pos hi]
        exact ⟨_,rfl,HM8 (i + 1) (by omega),(HT.out.causes.short (by omega)).1⟩
     rw [hle] at this
     exact this
   · exact gates_flat f3 (Nat.le_refl _) hfit.ng fun i hi=>⟨_,rfl,HI8 i hi,(HT.out.gates.short hi).1⟩
 · have hne:(E != 0) = true:=by simp [hE0]
   have HZT:Hid (withoutT t k = ⟨[],[],[]⟩):=by exact (by unfold withoutT; rw [if_neg (by rw [HE.out]; exact hE0)]:withoutT t k = ⟨[],[],[]⟩)
   go_wp2_with (refine wpList_store_blk rfl _ _ 37 rfl Tryz.sizeTree rfl rfl hbr rfl rfl ?_ ?_; (focus (intro u hu; simp only [List.mem_cons,List.not_mem_nil,or_false] at hu; rcases hu with rfl | rfl | rfl <;> rfl)); intro w8 hb8 hl8 ho8)
   refine bodyPost_ret (results_blk_tmp Tryz.results35 rfl hb8 Tryz.aggTree Tryz.sizeTree rfl) rfl ?_
   refine ⟨_,by rw [HE.out]; rfl,?_,Below.trans (HXX.out.trans HX3.out) (hl8 _ (by omega))⟩
   rw [HZT.out]
   exact zTree_is _
end Go.Proofs
