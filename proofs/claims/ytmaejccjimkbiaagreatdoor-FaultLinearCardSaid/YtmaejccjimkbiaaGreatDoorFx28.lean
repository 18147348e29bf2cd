/- Contracts: Interval. -/
import Derived.Test.YtmaejccjimkbiaaGreatDoorFx27
import Derived.ChangeKeysEq
set_option linter.unusedVariables false
set_option linter.unusedSimpArgs false
set_option linter.constructorNameAsVariable false
namespace Go.Proofs
open Go.RowKit Go.Tw Go.Flow
theorem X7x (w:World):(isAgg 3).run Tryz.prog w = .ok false w:=by kernel_rfl
theorem X6z (a b:List Int) (d:Nat) (w:World):∀ is:List Nat,(∀ i ∈ is,i < 12) → (Op.eqItems (d + 1) 3 1 (chA a) (chA b) is).run Tryz.prog w = .ok (is.all fun i=>ix a i == ix b i) w
 | [],_=>rfl
 | i :: is,h=>by
   have hi:=h i (List.mem_cons_self ..);have ih:=X6z a b d w is (fun j hj=>h j (List.mem_cons_of_mem _ hj));have pa (c:List Int):(part 3 (chA c) (i * 1)).run Tryz.prog w = .ok (.int .i64 (ix c i)) w:=by
    unfold part;rw [Nat.mul_one];simp only [Sem.run_bind,X7x,Result.andThen_ok,Bool.false_eq_true,if_false,X6w c hi,Sem.run_pure]
   rw [Op.eqItems];simp only [Sem.run_bind,pa,Result.andThen_ok,run_equalIn_int w d 3 .i64 .i64 _ _ Tryz.underlying3];cases hq:(ix a i == ix b i) with
   | true=>simp [ih,hq]
   | false=>simp [hq]
def chB (a b:List Int):Bool:=(List.range 12).all fun i=>ix a i == ix b i
theorem X7i (w:World) (a b:List Int):(binOp .eql 116 (.agg (chA a)) (.agg (chA b))).run Tryz.prog w = .ok (.bool (chB a b)) w:=by
 obtain ⟨i,hi⟩:∃ i,Tryz.prog.info? 3 = some i:=by
  have h:=Tryz.info3;cases hh:Tryz.prog.info? 3 with
  | none=>rw [hh] at h; cases h
  | some i=>exact ⟨i,rfl⟩
 have hu:Tryz.prog.underlying 116 = some (.array 12 3):=by kernel_rfl
 have hc:Tryz.prog.cellsOf 3 = 1:=by kernel_rfl
 rw [run_eql_struct,show (10000:Nat) = 9998 + 1 + 1 from rfl,run_equalIn_array w (9998 + 1) _ _ hu hi,hc,X6z a b 9998 w _ (fun i hi=>List.mem_range.1 hi)]
 rfl
theorem Tryz.Y0z (w:World):(isAgg 85).run Tryz.prog w = .ok true w:=by kernel_rfl
theorem Tryz.Q8d (w:World):(sizeOf 85).run Tryz.prog w = .ok 4 w:=by kernel_rfl
def X0t (r s:Ratio):Array Value:=#[.int .i64 r.num,.int .i64 r.den,.int .i64 s.num,.int .i64 s.den]
theorem Q9h (r s:Ratio):∀ u ∈ (X0t r s).toList,u.oneCell' = true:=by
 intro u hu;simp only [X0t,List.mem_cons,List.not_mem_nil,or_false] at hu
 rcases hu with rfl | rfl | rfl | rfl <;> rfl
theorem Z3x (c:List Int):∀ u ∈ (chA c).toList,u.oneCell' = true:=by
 intro u hu; simp [chA] at hu; rcases hu with rfl | rfl | rfl | rfl | rfl | rfl | rfl | rfl | rfl | rfl | rfl | rfl <;> rfl
def X7o (t:Tree) (l:List Int) (i:Nat):Int:=Q0h [Q0m (ix l i) 0 16,Q0k (decide (ix l i < ix t.Q0b i)) 11]
def X0p (t:Tree) (l:List Int):Int:=if l.length = t.size then Q0h ((List.range t.size).map (X7o t l)) else 2
def Q2f (t:Tree) (l:List Int):Int:=if t.err = 0 then X0p t l else t.err
def Y4j (t:Tree) (l:List Int):Ratio:=if Q2f t l = 0 then lowest (Q1g t t.Q0b 0) (Q5n 16 t.size) else ⟨0,0⟩
def X1r (t:Tree) (l:List Int):Ratio:=if Q2f t l = 0 then lowest (Q1g t l 0) (Q5n 16 t.size) else ⟨0,0⟩
def Y1d (t:Tree) (l:List Int) (k:Nat):List Int:=(List.range t.size).map fun i=>if i < k then ix l i else ix t.Q0b i
theorem Y2n (t:Tree) (l:List Int) (k:Nat) {i:Nat} (hi:i < t.size):ix (Y1d t l k) i = if i < k then ix l i else ix t.Q0b i:=by
 unfold Y1d;rw [Q8m (by simpa using hi)]
 simp
theorem Y4e (t:Tree) (l:List Int) (k:Nat) {i:Nat} (hi:t.size ≤ i):ix (Y1d t l k) i = 0:=by
 unfold Y1d ix;simp [hi]
theorem Y9v (t:Tree) (l:List Int):Y1d t l 0 = t.Q0b:=by
 apply List.ext_getElem
 · rw [Q4v]; simp [Y1d]
 · intro i h1 h2
   simp only [Y1d,List.length_map,List.length_range] at h1;simp [Y1d,ix,h2]
theorem Z0i {t:Tree} {l:List Int} (h:l.length = t.size):Y1d t l t.size = l:=by
 apply List.ext_getElem
 · rw [h]; simp [Y1d]
 · intro i h1 h2
   simp only [Y1d,List.length_map,List.length_range] at h1;simp [Y1d,ix,h1,h2]
theorem Y8q (t:Tree) (l:List Int) {k:Nat} (hk:k < t.size) (i:Nat):ix (Y1d t l (k + 1)) i = if i = k then ix l k else ix (Y1d t l k) i:=by
 by_cases hi:i < t.size
 · rw [Y2n _ _ _ hi,Y2n _ _ _ hi]
   by_cases h:i = k
   · subst h; simp
   · rw [if_neg h]
     by_cases h2:i < k
     · rw [if_pos h2,if_pos (by omega)]
     · rw [if_neg h2,if_neg (by omega)]
 · rw [Y4e _ _ _ (by omega),Y4e _ _ _ (by omega),if_neg (by omega)]
theorem Y1r {t:Tree} {l:List Int} {i:Nat} (h:X7o t l i = 0):0 ≤ ix l i ∧ ix l i ≤ 16:=by
 unfold X7o at h;rw [Q1k] at h;have:=h (Q0m (ix l i) 0 16) (by simp)
 unfold Q0m at this
 split at this
 · cases this
 · omega
theorem Z5q {a b:List Int} (h:chB a b = true) (ha:a.length ≤ 12) (hl:a.length = b.length):a = b:=by
 unfold chB at h;rw [List.all_eq_true] at h
 apply List.ext_getElem hl
 intro i h1 h2;have:=h i (List.mem_range.2 (by omega))
 rw [beq_iff_eq,Q8m h1,Q8m h2] at this;exact this
theorem X0d {P:Program} {w:World} {ops:Array Oper} {rest:List Oper} {o:Oper} {a:Act} {Q:Exit → Act → World → Prop} (hg:o.guard = none) (x y:Operand) (T T2:TypeId) (hop:o.op = .binOp .eql T x y T2) {xs ys:Array Value} (hx:a.eval x = .agg xs) (hy:a.eval y = .agg ys)
    {r:Bool} (hr:∀ w,(binOp .eql T (.agg xs) (.agg ys)).run P w = .ok (.bool r) w) (hm:P.eqGuardType P.depth T = false) (hK:wpList P ops Q rest (a.put o.dst (.bool r)) w):wpList P ops Q (o :: rest) a w:=by
 refine wpList_plain hg fun K' hK'=>?_;unfold Oper.wp;have hr2:(execOp a.eval o).run P w = .ok (.value (.bool r)) w:=by
  unfold execOp;simp only [hop,hx,hy,Sem.run_bind,run_eqGuard_agg w .eql T x y xs ys hm,Result.andThen_ok,hr,Sem.run_pure]
 rw [hr2];exact hK' _ _ hK
theorem X2p (w:World) (a b c d:Int):(Instr.build 85 #[(0,.agg #[.int .i64 a,.int .i64 b]),(1,.agg #[.int .i64 c,.int .i64 d])]).run Tryz.prog w = .ok (.agg #[.int .i64 a,.int .i64 b,.int .i64 c,.int .i64 d]) w:=by
 kernel_rfl
theorem X3e {w:World} {o:Oper} {a:Act} (x y:Operand) (hop:o.op = .build 85 #[(0,x),(1,y)]) (r s:Ratio) (hx:a.eval x = .agg (encR r)) (hy:a.eval y = .agg (encR s)):(execOp a.eval o).run Tryz.prog w = .ok (.value (.agg (X0t r s))) w:=by
 unfold execOp;simp only [hop,List.map_toArray,List.map_cons,List.map_nil,hx,hy,Sem.run_bind,encR,X2p,Result.andThen_ok,Sem.run_pure];rfl
theorem X5d {w:World} {ops:Array Oper} {rest:List Oper} {o:Oper} {a:Act} {Q:Exit → Act → World → Prop} (hg:o.guard = none) (x y:Operand) (hop:o.op = .build 85 #[(0,x),(1,y)]) (r s:Ratio) (hx:a.eval x = .agg (encR r)) (hy:a.eval y = .agg (encR s))
    (hK:wpList Tryz.prog ops Q rest (a.put o.dst (.agg (X0t r s))) w):wpList Tryz.prog ops Q (o :: rest) a w:=by
 refine wpList_plain hg fun K' hK'=>?_;unfold Oper.wp;rw [X3e x y hop r s hx hy];exact hK' _ _ hK
theorem Tryz.X9k:Tryz.prog.eqGuardType Tryz.prog.depth 116 = false:=by kernel_rfl
set_option maxRecDepth 100000 in
set_option maxHeartbeats 2000000 in
theorem X7k (w:World) (v u:Value) (t:Tree) (l:List Int) (ht:IsTree w v t) (hl:Q0f w u l) :
    Calls Tryz.prog 48 #[v,u] w fun e w'=>e = .returned (.tuple #[.agg (X0t (Y4j t l) (X1r t l)),.int .i64 (Q2f t l)]) ∧ Ext w w':=by
 obtain ⟨Au,capu,rfl,hll,hlc,hcc⟩:=hl.opened;have HCC:=Lib.hid hcc;clear hl hcc;obtain ⟨a,b,c,rfl,h3⟩:=ht;obtain ⟨A,capa,rfl,hl1,hcap1,_⟩:=h3.basics.opened;obtain ⟨B,capb,rfl,hl2,hcap2,_⟩:=h3.causes.opened;obtain ⟨G,capg,rfl,hl3,hcap3,_⟩:=h3.gates.opened;have HT0:=Lib.hid h3;clear h3;go_enter Tryz.func48,Tryz.ntmps48;go_wp2_with fail;change Calls _ _ _ (((w.alloc (.cells #[.slice A t.basics.length capa,.slice B t.causes.length capb,.slice G t.gates.length capg] 37)).alloc (.cells #[.int .i64 0,.int .i64 0,.int .i64 0,.int .i64 0] 85)).alloc (.cells #[.int .i64 0,.int .i64 0,.int .i64 0,.int .i64 0] 85)) _;have k0:=Blk.made w 37 #[.slice A t.basics.length capa,.slice B t.causes.length capb,.slice G t.gates.length capg];have x0:=Ext.box w (.cells #[.slice A t.basics.length capa,.slice B t.causes.length capb,.slice G t.gates.length capg] 37);have es0:(w.alloc (.cells #[.slice A t.basics.length capa,.slice B t.causes.length capb,.slice G t.gates.length capg] 37)).heap.size = w.heap.size + 1:=by simp
 obtain ⟨X0,hX0⟩:∃ X,w.alloc (.cells #[.slice A t.basics.length capa,.slice B t.causes.length capb,.slice G t.gates.length capg] 37) = X:=⟨_,rfl⟩;rw [hX0] at k0 x0 es0 ⊢;clear hX0;have k1:=Blk.made X0 85 #[.int .i64 0,.int .i64 0,.int .i64 0,.int .i64 0];have x1:=Ext.box X0 (.cells #[.int .i64 0,.int .i64 0,.int .i64 0,.int .i64 0] 85);have es1:(X0.alloc (.cells #[.int .i64 0,.int .i64 0,.int .i64 0,.int .i64 0] 85)).heap.size = X0.heap.size + 1:=by simp
 obtain ⟨X1,hX1⟩:∃ X,X0.alloc (.cells #[.int .i64 0,.int .i64 0,.int .i64 0,.int .i64 0] 85) = X:=⟨_,rfl⟩;rw [hX1] at k1 x1 es1 ⊢;clear hX1;have k2:=Blk.made X1 85 #[.int .i64 0,.int .i64 0,.int .i64 0,.int .i64 0];have x2:=Ext.box X1 (.cells #[.int .i64 0,.int .i64 0,.int .i64 0,.int .i64 0] 85);have es2:(X1.alloc (.cells #[.int .i64 0,.int .i64 0,.int .i64 0,.int .i64 0] 85)).heap.size = X1.heap.size + 1:=by simp
 obtain ⟨X2,hX2⟩:∃ X,X1.alloc (.cells #[.int .i64 0,.int .i64 0,.int .i64 0,.int .i64 0] 85) = X:=⟨_,rfl⟩;rw [hX2] at k2 x2 es2 ⊢;clear hX2;replace k0:=(k0.ext x1).ext x2;replace k1:=k1.ext x2;have e0:X0.heap.size = w.heap.size + 1:=by omega
 have e1:X1.heap.size = w.heap.size + 1 + 1:=by omega
 have e2:X2.heap.size = w.heap.size + 1 + 1 + 1:=by omega
 rw [e0] at k1;rw [e1] at k2;have HXW:Hid (Ext w X2):=by exact (Ext.trans (Ext.trans (x0) x1) x2:Ext w X2)
 have eW:X2.heap.size = w.heap.size + 1 + 1 + 1:=e2;clear x0 es0 e0 x1 es1 e1 x2 es2 e2;obtain ⟨W,hWW⟩:∃ W,X2 = W:=⟨_,rfl⟩;rw [hWW] at HXW eW ⊢ k0 k1 k2;clear hWW;have HT:=Lib.hid (HT0.out.ext HXW.out);refine (Q2j _ _ t ⟨_,_,_,rfl,HT.out⟩).mono ?_;rintro e w1 ⟨rfl,hx1⟩;have kt:=k0.ext hx1;have c0:=kt.cell 0;have c1:=kt.cell 1;have c2:=kt.cell 2;simp only [List.getElem?_toArray,List.getElem?_cons_zero,List.getElem?_cons_succ] at c0 c1 c2;have HXX:=Lib.hid (HXW.out.trans hx1);have HX1:=Lib.hid hx1;clear kt hx1;have hbr:=k1.ext HX1.out;have hbo:=k2.ext HX1.out;clear k0 k1 k2
 by_cases he:t.err = 0
 · have HIE:Hid (Q2f t l = X0p t l):=by exact (by unfold Q2f; rw [if_pos he]:Q2f t l = X0p t l)
   have hV:=Valid.of he;have HV:=Lib.hid hV;have HE0:=Lib.hid he;have hsz:=hV.size;have hne:(t.err != 0) = false:=by simp [he]
   clear he hV;go_wp2_with fail;refine (Q3o _ _ t HV.out ⟨_,_,_,rfl,HT.out.ext HX1.out⟩).mono ?_;rintro e w2 ⟨fv,gv,rfl,hn,hx2⟩;obtain ⟨A1,cap1,rfl,_,_,_⟩:=hn.fails.opened;obtain ⟨A2,cap2,rfl,_,_,_⟩:=hn.gates.opened;rw [Q2o] at hn ⊢;have HN:=Lib.hid hn;have HX2:=Lib.hid hx2;clear hn hx2 c0 c1 c2;replace hbr:=hbr.ext HX2.out;replace hbo:=hbo.ext HX2.out;have hbl:=hbo.lt
   by_cases hlen:l.length = t.size
   · have hln:((l.length:Int) != (t.size:Int)) = false:=by rw [hlen]; simp
     have HME:Hid (X0p t l = Q0h ((List.range t.size).map (X7o t l))):=by exact (by unfold X0p; rw [if_pos hlen]:X0p t l = Q0h ((List.range t.size).map (X7o t l)))
     have HLEN:=Lib.hid hlen;clear hlen;go_wp2_with (first | (refine Q0d rfl _ _ 121 rfl Tryz.Q0r rfl rfl (Blk.made _ _ _) rfl rfl ?_ ?_; (focus (intro u hu; simp [outA] at hu; rcases hu with rfl | rfl | rfl | rfl | rfl | rfl | rfl | rfl | rfl | rfl | rfl | rfl | rfl | rfl | rfl | rfl <;> rfl)); intro w9 hb9 hl9 ho9); have n0:=hb9.cell 0; simp only [outA,List.getElem?_toArray,List.getElem?_cons_zero] at n0 | (refine Q2b rfl _ 116 rfl Tryz.Q6x Tryz.Q4a rfl (Q2a hb9) rfl ?_) | (refine Q0d rfl _ _ 116 rfl Tryz.Q4a rfl rfl (Blk.made _ _ _) rfl rfl ?_ ?_; (focus (exact Z3x _)); intro w3 hb3 hl3' ho3))
     have hx9:Ext w2 w9:=Below.trans (Ext.box w2 _) (hl9 _ (Nat.le_refl _));have HXX9:Hid (Ext w w9):=by exact (HXX.out.trans HX2.out).trans hx9
     have HN9:=Lib.hid (HN.out.ext hx9);replace hbr:=hbr.ext hx9;replace hbo:=hbo.ext hx9;have HB9:Hid (Blk w9 w2.heap.size 121 (outA t.size (.slice A1 t.size cap1) t.Q0b t.basics.length (.slice A2 t.gates.length cap2))):=by exact hb9
     have HCL:=Lib.hid (Q4v t);have HSM:=Lib.hid HV.out.small;have hg9:=hb9.lt;clear hl9 ho9 hb9 hx9 n0;have hx3:Ext w9 w3:=Below.trans (Ext.box w9 _) (hl3' _ (Nat.le_refl _));obtain ⟨g,hg⟩:∃ g,w9.heap.size = g:=⟨_,rfl⟩;have hgl:g < w3.heap.size:=by rw [← hg]; exact hb3.lt
     rw [hg] at hb3 hg9 ⊢;have hbog:w.heap.size + 1 + 1 < g:=by rw [← hg]; exact hbo.lt
     rw [← Y9v t l] at hb3;have HB3:=Lib.hid hb3;have HBN:=Lib.hid (HB9.out.ext hx3);have HBR:=Lib.hid (hbr.ext hx3);have HBO:=Lib.hid (hbo.ext hx3);have HN':Hid (∀ W,Below g w3 W → X8r W (.slice A1 t.size cap1) (.slice A2 t.gates.length cap2) t):=by exact (fun W hB=>HN9.out.ext (Below.trans hx3 (hB.mono (by omega))):∀ W,Below g w3 W → X8r W (.slice A1 t.size cap1) (.slice A2 t.gates.length cap2) t)
     have HXX3:=Lib.hid (HXX9.out.trans hx3);have hwg:w.heap.size < g:=by omega
     clear hl3' ho3 hx3 hg hbr hbo hb3
     go_loopw [34] (fun i wr=>∃ (k:Nat),k ≤ t.size ∧ i = .int .i64 k ∧ (∀ j,j < k → X7o t l j = 0) ∧ Blk wr g 116 (chA (Y1d t l k)) ∧ Below g w3 wr) (fun i _=>t.size - (intOf i).toNat)
     case atStart=>exact ⟨0,Nat.zero_le _,rfl,fun j hj=>by omega,HB3.out,Below.refl _ _⟩
     case round =>
      obtain ⟨k,hk,rfl,hz,hb,hbel⟩:=hrel;have HZ:=Lib.hid hz;have HB:=Lib.hid hb;have HBEL:=Lib.hid hbel;have hgr:=hb.lt;have HLQ:=HLEN.out
      by_cases hlt:k < t.size
      · obtain ⟨b0,off,rfl,hce⟩:=HCC.out k (by omega)
        have hb0:b0 < w.heap.size:=World.block_lt_of_cell? w _ hce;replace hce:=(hbel.cell (p:=⟨b0,off + k,none⟩) (by show b0 < g; omega)).trans (HXX3.out.cell hce)
        have nh:=hb.cell k;have nf:=hb.frozen k;rw [X6w _ (by omega),Y2n _ _ _ hlt,if_neg (by omega)] at nh
        have HME2:Hid (X7o t l k = Q0h [Q0m (ix l k) 0 16,Q0k (decide (ix l k < ix t.Q0b k)) 11]):=by exact (rfl:X7o t l k = _)
        obtain ⟨c,hc⟩:∃ c,ix l k = c:=⟨_,rfl⟩;obtain ⟨y,hy⟩:∃ y,ix t.Q0b k = y:=⟨_,rfl⟩;obtain ⟨bl,hbl'⟩:∃ b,decide (c < y) = b:=⟨_,rfl⟩;rw [hc,hy,hbl'] at HME2;rw [hc] at hce;rw [hy] at nh;have HC:=Lib.hid hc;obtain ⟨E,hE⟩:∃ E,Q0h [Q0m c 0 16,Q0k bl 11] = E:=⟨_,rfl⟩;have HE:Hid (∀ (w':World) (u:Value),Q0f w' u [Q0m c 0 16,Q0k bl 11] → Calls Tryz.prog 74 #[u] w' fun e w''=>e = .returned (.int .i64 E) ∧ w' = w''):=by
         exact (by intro w' u h; rw [← hE]; exact first_any _ _ _ h:∀ (w':World) (u:Value),Q0f w' u [Q0m c 0 16,Q0k bl 11] → Calls Tryz.prog 74 #[u] w' fun e w''=>e = .returned (.int .i64 E) ∧ w' = w'')
        rw [hE] at HME2;have hkI:(k:Int) < 12:=by omega
        have hkl:(k:Int) < (l.length:Int):=by omega
        have hdr:=(Ext.refl wr).drew;clear hc hy hE hz hb hbel HLQ;go_wp2;refine Flow.Q3g [.plain,.world,.plain,.plain,.plain,.world,.plain,.world,.world,.world,.plain] [0,1,2,3,4,5,6,7,8,9,10] [[],[0],[],[],[3],[4],[2,5],[1,6],[1,7],[7,8],[0,1,2,3,4,5,6,7,8,9]]
         [.is 0 (fun v=>.int .i64 c),.is 1 (fun v=>.int .i64 (Q0m c 0 16)),.is 2 (fun v=>.int .i64 c),.is 3 (fun v=>.int .i64 k),.is 4 (fun v=>.pointer (some ⟨g,k,none⟩)),.is 5 (fun v=>.int .i64 y),.is 6 (fun v=>.bool bl),.is 7 (fun v=>.int .i64 (Q0k bl 11)),⟨fun v wz=>Q0f wz (v 8) [Q0m c 0 16,Q0k bl 11],fun _ _ _ hx h=>h.ext hx⟩,.is 9 (fun v=>.int .i64 E),.is 10 (fun v=>.int .i64 E)]
         (by kernel_rfl) rfl (by kernel_rfl) ⟨?g0,?g1,?g2,?g3,?g4,?g5,?g6,?g7,?g8,?g9,?g10,trivial⟩ ?post
        case g0 =>
         intro v w1 hx;intro bb hbb;subst hbb;refine ⟨_,fun w=>?_,rfl⟩;go_simp
        case g1 =>
         intro v w1 hx (q0:v 0 = .int .i64 c);intro bb hbb;subst hbb;intro K hK;go_simp;refine Q0e (Q8h _ _ _ _) ?_;rintro e w2 ⟨rfl,rfl⟩;exact ⟨_,rfl,hK _ _ (Ext.refl _) rfl⟩
        case g2 =>
         intro v w1 hx;intro bb hbb;subst hbb;refine ⟨_,fun w=>?_,rfl⟩;go_simp
        case g3 =>
         intro v w1 hx;intro bb hbb;subst hbb;refine ⟨_,fun w=>?_,rfl⟩;go_simp
        case g4 =>
         intro v w1 hx (q3:v 3 = .int .i64 k);intro bb hbb;subst hbb;refine ⟨_,fun w=>?_,rfl⟩;go_simp
        case g5 =>
         intro v w1 hx (q4:v 4 = .pointer (some ⟨g,k,none⟩));intro bb hbb;subst hbb;have nh:=hx.cell nh;intro K hK;go_simp;exact hK _ _ (Ext.refl _) rfl
        case g6 =>
         intro v w1 hx (q2:v 2 = .int .i64 c) (q5:v 5 = .int .i64 y);intro bb hbb;subst hbb;refine ⟨_,fun w=>?_,rfl⟩;go_simp
        case g7 =>
         intro v w1 hx (q1:v 1 = .int .i64 (Q0m c 0 16)) (q6:v 6 = .bool bl);intro bb hbb;subst hbb;intro K hK;go_simp;refine Q0e (Q3n _ _ _) ?_;rintro e w2 ⟨rfl,rfl⟩;exact ⟨_,rfl,hK _ _ (Ext.refl _) rfl⟩
        case g8 =>
         intro v w1 hx (q1:v 1 = .int .i64 (Q0m c 0 16)) (q7:v 7 = .int .i64 (Q0k bl 11));intro bb hbb;subst hbb;intro K hK;go_simp;exact hK _ _ (Ext.box _ _) (Q2m (l:=[Q0m c 0 16,Q0k bl 11]) (by simp))
        case g9 =>
         intro v w1 hx (q7:v 7 = .int .i64 (Q0k bl 11)) (q8:Q0f w1 (v 8) [Q0m c 0 16,Q0k bl 11]);intro bb hbb;subst hbb;intro K hK;go_simp;refine Q0e (HE.out _ _ q8) ?_;rintro e w2 ⟨rfl,rfl⟩;exact ⟨_,rfl,hK _ _ (Ext.refl _) rfl⟩
        case g10 =>
         intro v w1 hx (q0:v 0 = .int .i64 c) (q1:v 1 = .int .i64 (Q0m c 0 16)) (q2:v 2 = .int .i64 c) (q3:v 3 = .int .i64 k) (q4:v 4 = .pointer (some ⟨g,k,none⟩)) (q5:v 5 = .int .i64 y) (q6:v 6 = .bool bl) (q7:v 7 = .int .i64 (Q0k bl 11)) (q8:Q0f w1 (v 8) [Q0m c 0 16,Q0k bl 11]) (q9:v 9 = .int .i64 E);intro bb hbb;subst hbb;refine ⟨_,fun w=>?_,rfl⟩;go_simp
        case post =>
         intro v w1 hx (q0:v 0 = .int .i64 c) (q1:v 1 = .int .i64 (Q0m c 0 16)) (q2:v 2 = .int .i64 c) (q3:v 3 = .int .i64 k) (q4:v 4 = .pointer (some ⟨g,k,none⟩)) (q5:v 5 = .int .i64 y) (q6:v 6 = .bool bl) (q7:v 7 = .int .i64 (Q0k bl 11)) (q8:Q0f w1 (v 8) [Q0m c 0 16,Q0k bl 11]) (q9:v 9 = .int .i64 E) (q10:v 10 = .int .i64 E);simp only [Flow.All,Flow.acts,Act.put];go_simp;have hxx:=hdr.trans hx;have HX:=Lib.hid hxx;have HB5:=Lib.hid (HB.out.ext hxx);have HBEL5:=Lib.hid (HBEL.out.trans (hxx.mono (by omega)))
         have nh2:=(HB.out.ext hxx).cell k;have nf2:=(HB.out.ext hxx).frozen k;rw [X6w _ (by omega)] at nh2
         clear hx hxx nh nf hbl'
         by_cases hE0:E = 0
         · have hne2:(E != 0) = false:=by simp [hE0]
           have HE0':=Lib.hid (HME2.out.trans hE0);clear hE0;go_wp2;go_roundw
           case rel=>exact ⟨k + 1,by omega,by go_num,(fun j hj=>by rcases Nat.lt_or_ge j k with h | h; exact HZ.out j h; rw [show j = k from by omega]; exact HE0'.out),(by have h:=HB5.out.set k (.int .i64 c); rw [Y7o (d:=Y1d t l (k + 1)) (by omega) (fun i _=>by rw [Y8q t l hlt i,HC.out])] at h; exact h),HBEL5.out.setCell (p:=⟨g,k,none⟩) (Nat.le_refl _) _⟩
           case measure=>simp [intOf]; omega
         · have hne2:(E != 0) = true:=by simp [hE0]
           have HEF:Hid (Q2f t l = E):=by exact (by rw [HIE.out,HME.out,← List.append_nil ((List.range t.size).map (X7o t l)),Q7m hlt HZ.out (by rw [HME2.out]; exact hE0),HME2.out]:Q2f t l = E)
           have HL:Hid (Y4j t l = ⟨0,0⟩):=by exact (by unfold Y4j; rw [HEF.out,if_neg hE0]:Y4j t l = ⟨0,0⟩)
           have HH:Hid (X1r t l = ⟨0,0⟩):=by exact (by unfold X1r; rw [HEF.out,if_neg hE0]:X1r t l = ⟨0,0⟩)
           have hbo5:=(HBO.out.below HBEL5.out (by omega))
           have hbr5:=(HBR.out.below HBEL5.out (by omega))
           clear hE0;go_wp2_with (first | (refine Q0j rfl _ 85 rfl Tryz.Y0z Tryz.Q8d rfl hbo5 rfl ?_) | (refine Q0d rfl _ _ 85 rfl Tryz.Q8d rfl rfl hbr5 rfl rfl ?_ ?_; (focus (exact Q9h ⟨0,0⟩ ⟨0,0⟩)); intro w8 hb8 hl8 ho8))
           refine bodyPost_ret (Q0o Tryz.results48 rfl hb8 Tryz.Y0z Tryz.Q8d rfl) rfl ?_;exact ⟨by rw [HL.out,HH.out,HEF.out]; rfl,Below.trans (Below.trans HXX3.out (HBEL5.out.mono (by omega))) (hl8 _ (by omega))⟩
      · have e:k = t.size:=by omega
        subst e;have HI0:Hid (Q2f t l = 0):=by exact (by rw [HIE.out,HME.out,Q1k]; intro x hx; obtain ⟨i,hi,rfl⟩:=List.mem_map.1 hx; exact HZ.out i (List.mem_range.1 hi):Q2f t l = 0)
        have HL:Hid (Y4j t l = lowest (Q1g t t.Q0b 0) (Q5n 16 t.size)):=by exact (by unfold Y4j; rw [if_pos HI0.out]:Y4j t l = lowest (Q1g t t.Q0b 0) (Q5n 16 t.size))
        have HH:Hid (X1r t l = lowest (Q1g t l 0) (Q5n 16 t.size)):=by exact (by unfold X1r; rw [if_pos HI0.out]:X1r t l = lowest (Q1g t l 0) (Q5n 16 t.size))
        have HSL:Hid (Small l):=by exact (⟨by rw [HLEN.out]; exact hsz,fun x hx=>by obtain ⟨i,hi,rfl⟩:=List.getElem_of_mem hx; rw [← Q8m hi]; exact Y1r (HZ.out i (by rw [HLEN.out] at hi; exact hi))⟩:Small l)
        rw [Z0i HLEN.out] at hb;have HB2:=Lib.hid hb;have HNR:=Lib.hid (HN'.out wr hbel);have HBW:=Lib.hid (HBN.out.below hbel (by omega))
        have HXR:=Lib.hid (Below.trans HXX3.out (hbel.mono (by omega)))
        have HBR2:=Lib.hid (HBR.out.below hbel (by omega))
        have hnl:¬ t.size < l.length:=by rw [HLEN.out]; omega
        clear hz hb hbel HLQ HB HBEL;cases hq:chB l t.Q0b with
        | true =>
          have HEQ:=Lib.hid (Z5q hq HSL.out.len (by rw [HLEN.out,HCL.out]))
          go_wp2_with (first | (refine Q0j rfl _ 121 rfl Tryz.Q1s Tryz.Q0r rfl HBW.out rfl ?_) | (refine Q2b rfl _ 116 rfl Tryz.Q6x Tryz.Q4a rfl (Q2a HBW.out) rfl ?_) | fail)
          refine (Q4f _ _ _ t t.Q0b t.Q0b HV.out HNR.out HSM.out HCL.out).mono ?_;rintro e w4 ⟨rfl,hx4⟩;have HHI0:=Lib.hid (HB2.out.ext hx4);have HBN0:=Lib.hid (HBW.out.ext hx4);have HBR0:=Lib.hid (HBR2.out.ext hx4);go_wp2_with (first | (refine Q0d rfl _ _ 59 rfl Tryz.Q1v rfl rfl (Blk.made _ _ _) rfl rfl ?_ ?_; (focus (exact Q5t _ _)); intro w5 hb5 hl5 ho5; have hx5:Ext w4 w5:=Below.trans (Ext.box w4 _) (hl5 _ (Nat.le_refl _))) | (refine Q0j rfl _ 116 rfl Tryz.Q6x Tryz.Q4a rfl (HHI0.out.ext hx5) rfl ?_) | (refine Q2b rfl _ 116 rfl Tryz.Q6x Tryz.Q4a rfl (Q2a (HBN0.out.ext hx5)) rfl ?_) | (refine X0d rfl _ _ 116 _ rfl rfl rfl (fun w=>X7i w l t.Q0b) Tryz.X9k ?_; rw [hq]) | (refine Q0j rfl _ 59 rfl Tryz.Q5e Tryz.Q1v rfl hb5 rfl ?_) | (refine X5d rfl _ _ rfl (lowest (Q1g t t.Q0b 0) (Q5n 16 t.size)) (lowest (Q1g t t.Q0b 0) (Q5n 16 t.size)) rfl rfl ?_) | (refine Q0d rfl _ _ 85 rfl Tryz.Q8d rfl rfl (HBR0.out.ext hx5) rfl rfl ?_ ?_; (focus (exact Q9h _ _)); intro w8 hb8 hl8 ho8))
          refine bodyPost_ret (Q0o Tryz.results48 rfl hb8 Tryz.Y0z Tryz.Q8d rfl) rfl ?_;exact ⟨by rw [HL.out,HH.out,HI0.out,HEQ.out]; rfl,Below.trans (Ext.trans HXR.out (hx4.trans hx5)) (hl8 _ (by omega))⟩
        | false =>
          go_wp2_with (first | (refine Q0j rfl _ 121 rfl Tryz.Q1s Tryz.Q0r rfl HBW.out rfl ?_) | (refine Q2b rfl _ 116 rfl Tryz.Q6x Tryz.Q4a rfl (Q2a HBW.out) rfl ?_) | fail)
          refine (Q4f _ _ _ t t.Q0b t.Q0b HV.out HNR.out HSM.out HCL.out).mono ?_;rintro e w4 ⟨rfl,hx4⟩;have HHI0:=Lib.hid (HB2.out.ext hx4);have HBN0:=Lib.hid (HBW.out.ext hx4);have HBR0:=Lib.hid (HBR2.out.ext hx4);have HNR0:=Lib.hid (HNR.out.ext hx4);go_wp2_with (first | (refine Q0d rfl _ _ 59 rfl Tryz.Q1v rfl rfl (Blk.made _ _ _) rfl rfl ?_ ?_; (focus (exact Q5t _ _)); intro w5 hb5 hl5 ho5; have hx5:Ext w4 w5:=Below.trans (Ext.box w4 _) (hl5 _ (Nat.le_refl _))) | (refine Q0j rfl _ 116 rfl Tryz.Q6x Tryz.Q4a rfl (HHI0.out.ext hx5) rfl ?_) | (refine Q2b rfl _ 116 rfl Tryz.Q6x Tryz.Q4a rfl (Q2a (HBN0.out.ext hx5)) rfl ?_) | (refine X0d rfl _ _ 116 _ rfl rfl rfl (fun w=>X7i w l t.Q0b) Tryz.X9k ?_; rw [hq]) | fail)
          have HHI5:=Lib.hid (HHI0.out.ext hx5);have HBN5:=Lib.hid (HBN0.out.ext hx5);have HBR5:=Lib.hid (HBR0.out.ext hx5);have HB5:Hid (Blk w5 w4.heap.size 59 (encR (lowest (Q1g t t.Q0b 0) (Q5n 16 t.size)))):=by exact hb5
          have HXX5:=Lib.hid (Ext.trans HXR.out (hx4.trans hx5));have hbl5:=HBR5.out.lt;have HPR:Hid (∀ w',Ext w5 w' → Calls Tryz.prog 86 #[noV t t.Q0b (.slice A1 t.size cap1) (.slice A2 t.gates.length cap2),chV l] w' fun e w''=>e = .returned (.agg (encR (lowest (Q1g t l 0) (Q5n 16 t.size)))) ∧ Ext w' w''):=by
           exact (fun w' hx=>Q4f w' _ _ t t.Q0b l HV.out (HNR0.out.ext (hx5.trans hx)) HSL.out HLEN.out:∀ w',Ext w5 w' → Calls Tryz.prog 86 #[noV t t.Q0b (.slice A1 t.size cap1) (.slice A2 t.gates.length cap2),chV l] w' fun e w''=>e = .returned (.agg (encR (lowest (Q1g t l 0) (Q5n 16 t.size)))) ∧ Ext w' w'')
          obtain ⟨lo,hlo⟩:∃ r,lowest (Q1g t t.Q0b 0) (Q5n 16 t.size) = r:=⟨_,rfl⟩;obtain ⟨hi,hhi⟩:∃ r,lowest (Q1g t l 0) (Q5n 16 t.size) = r:=⟨_,rfl⟩;rw [hlo] at HB5 HL;rw [hhi] at HPR HH;have hdr:=(Ext.refl w5).drew;clear hb5 hl5 ho5 hx4 hx5 hlo hhi hq;refine Flow.Q3v [.world,.world,.world,.world,.plain,.last,.last] [0,1,2,3,4,5,6] [[],[],[],[1,2],[0,1,2,3],[0,1,2,3,4],[0,1,2,3,4,5]] [5,6]
           [.is 0 (fun v=>.agg (encR lo)),.is 1 (fun v=>noV t t.Q0b (.slice A1 t.size cap1) (.slice A2 t.gates.length cap2)),.is 2 (fun v=>chV l),.is 3 (fun v=>.agg (encR hi)),.is 4 (fun v=>.agg (X0t lo hi)),.none,.none]
           [fun v w1 w'=>Blk w' (w.heap.size + 1) 85 (X0t lo hi) ∧ Below w.heap.size w1 w',fun v w1 w'=>v 6 = .int .i64 0 ∧ Blk w' (w.heap.size + 1) 85 (X0t lo hi) ∧ Below w.heap.size w1 w'] (by kernel_rfl) rfl (by kernel_rfl) ⟨?g0,?g1,?g2,?g3,?g4,?g5,?g6,trivial⟩ ?post
          case g0 =>
           intro v w1 hx;intro bb hbb;intro K hK;have o1:bb.eval (.tmp 13) = .pointer (some ⟨w4.heap.size,0,none⟩):=by rw [hbb]; dsimp only; (try simp (discharger:=decide) only [eval_put_ne]); rfl
           exact Q0n (.tmp 13) _ rfl Tryz.Q5e Tryz.Q1v o1 (HB5.out.ext (hdr.trans hx)) rfl (hK _ _ (Ext.refl _) rfl)
          case g1 =>
           intro v w1 hx;intro bb hbb;intro K hK;have o1:bb.eval (.tmp 8) = .pointer (some ⟨w2.heap.size,0,none⟩):=by rw [hbb]; dsimp only; (try simp (discharger:=decide) only [eval_put_ne]); rfl
           exact Q0n (.tmp 8) _ rfl Tryz.Q1s Tryz.Q0r o1 (HBN5.out.ext (hdr.trans hx)) rfl (hK _ _ (Ext.refl _) rfl)
          case g2 =>
           intro v w1 hx;intro bb hbb;intro K hK;have o1:bb.eval (.tmp 9) = .pointer (some ⟨g,0,none⟩):=by rw [hbb]; dsimp only; (try simp (discharger:=decide) only [eval_put_ne]); rfl
           exact Q0n (.tmp 9) _ rfl Tryz.Q6x Tryz.Q4a o1 (HHI5.out.ext (hdr.trans hx)) rfl (hK _ _ (Ext.refl _) rfl)
          case g3 =>
           intro v w1 hx (q1:v 1 = noV t t.Q0b (.slice A1 t.size cap1) (.slice A2 t.gates.length cap2)) (q2:v 2 = chV l);intro bb hbb;subst hbb;intro K hK;go_simp;refine Q0e (HPR.out _ (hdr.trans hx)) ?_;rintro e w2 ⟨rfl,hx2⟩;exact ⟨_,rfl,hK _ _ hx2 rfl⟩
          case g4 =>
           intro v w1 hx (q0:v 0 = .agg (encR lo)) (q1:v 1 = noV t t.Q0b (.slice A1 t.size cap1) (.slice A2 t.gates.length cap2)) (q2:v 2 = chV l) (q3:v 3 = .agg (encR hi));intro bb hbb;have o1:bb.eval (.tmp 70) = .agg (encR lo):=by rw [hbb]; dsimp only; (try simp (discharger:=decide) only [eval_put_ne]); rw [Q0a (by simp only [size_put]; exact (by decide:70 < 75))]; exact q0
           have o2:bb.eval (.tmp 73) = .agg (encR hi):=by rw [hbb]; dsimp only; (try simp (discharger:=decide) only [eval_put_ne]); rw [Q0a (by simp only [size_put]; exact (by decide:73 < 75))]; exact q3
           exact ⟨.agg (X0t lo hi),fun w=>X3e (.tmp 70) (.tmp 73) rfl lo hi o1 o2,rfl⟩
          case g5 =>
           intro v w1 hx (q0:v 0 = .agg (encR lo)) (q1:v 1 = noV t t.Q0b (.slice A1 t.size cap1) (.slice A2 t.gates.length cap2)) (q2:v 2 = chV l) (q3:v 3 = .agg (encR hi)) (q4:v 4 = .agg (X0t lo hi));intro wl hT;obtain rfl:wl = w1:=hT;intro bb hbb;intro K hK;have o1:bb.eval (.tmp 4) = .pointer (some ⟨w.heap.size + 1,0,none⟩):=by rw [hbb]; dsimp only; (try simp (discharger:=decide) only [eval_put_ne]); rfl
           have o2:bb.eval (.tmp 74) = .agg (X0t lo hi):=by rw [hbb]; dsimp only; (try simp (discharger:=decide) only [eval_put_ne]); rw [Q0a (by simp only [size_put]; exact (by decide:74 < 75))]; exact q4
           exact Q2p (.tmp 4) (.tmp 74) _ rfl Tryz.Q8d o1 o2 (HBR5.out.ext (hdr.trans hx)) rfl rfl (Q9h _ _) (fun vv w' hb hl ho=>hK _ _ ⟨hb,hl _ (by omega)⟩)
          case g6 =>
           intro v w1 hx (q0:v 0 = .agg (encR lo)) (q1:v 1 = noV t t.Q0b (.slice A1 t.size cap1) (.slice A2 t.gates.length cap2)) (q2:v 2 = chV l) (q3:v 3 = .agg (encR hi)) (q4:v 4 = .agg (X0t lo hi));intro wl hT;replace hT:(fun v w1 w'=>Blk w' (w.heap.size + 1) 85 (X0t lo hi) ∧ Below w.heap.size w1 w') v w1 wl:=hT;intro bb hbb;subst hbb;intro K hK;go_simp;exact hK _ _ ⟨rfl,hT⟩
          case post =>
           intro v w1 hx (q0:v 0 = .agg (encR lo)) (q1:v 1 = noV t t.Q0b (.slice A1 t.size cap1) (.slice A2 t.gates.length cap2)) (q2:v 2 = chV l) (q3:v 3 = .agg (encR hi)) (q4:v 4 = .agg (X0t lo hi));intro w2 hE;replace hE:(fun v w1 w'=>v 6 = .int .i64 0 ∧ Blk w' (w.heap.size + 1) 85 (X0t lo hi) ∧ Below w.heap.size w1 w') v w1 w2:=hE;simp only [Flow.acts,Act.put];go_simp;obtain ⟨hz9,hb8,hl8⟩:=hE;go_wp2;refine bodyPost_ret (Q0o Tryz.results48 rfl hb8 Tryz.Y0z Tryz.Q8d rfl) rfl ?_;exact ⟨by rw [HL.out,HH.out,HI0.out]; simp [hz9],Below.trans (HXX5.out.trans (hdr.trans hx)) hl8⟩
   · have hln:((l.length:Int) != (t.size:Int)) = true:=by rw [bne_iff_ne]; omega
     have HEF:Hid (Q2f t l = 2):=by exact (by rw [HIE.out]; unfold X0p; rw [if_neg hlen]:Q2f t l = 2)
     have HL:Hid (Y4j t l = ⟨0,0⟩):=by exact (by unfold Y4j; rw [HEF.out,if_neg (by decide)]:Y4j t l = ⟨0,0⟩)
     have HH:Hid (X1r t l = ⟨0,0⟩):=by exact (by unfold X1r; rw [HEF.out,if_neg (by decide)]:X1r t l = ⟨0,0⟩)
     clear hlen;go_wp2_with (first | (refine Q0d rfl _ _ 121 rfl Tryz.Q0r rfl rfl (Blk.made _ _ _) rfl rfl ?_ ?_; (focus (intro u hu; simp [outA] at hu; rcases hu with rfl | rfl | rfl | rfl | rfl | rfl | rfl | rfl | rfl | rfl | rfl | rfl | rfl | rfl | rfl | rfl <;> rfl)); intro w9 hb9 hl9 ho9); have n0:=hb9.cell 0; have hx9:Ext w2 w9:=Below.trans (Ext.box w2 _) (hl9 _ (Nat.le_refl _)); simp only [outA,List.getElem?_toArray,List.getElem?_cons_zero] at n0 | (refine Q0j rfl _ 85 rfl Tryz.Y0z Tryz.Q8d rfl (hbo.ext hx9) rfl ?_) | (refine Q0d rfl _ _ 85 rfl Tryz.Q8d rfl rfl (hbr.ext hx9) rfl rfl ?_ ?_; (focus (exact Q9h ⟨0,0⟩ ⟨0,0⟩)); intro w8 hb8 hl8 ho8))
     have HXX9:Hid (Ext w w9):=by exact (HXX.out.trans HX2.out).trans hx9
     refine bodyPost_ret (Q0o Tryz.results48 rfl hb8 Tryz.Y0z Tryz.Q8d rfl) rfl ?_;exact ⟨by rw [HL.out,HH.out,HEF.out]; rfl,Below.trans HXX9.out (hl8 _ (by omega))⟩
 · have HIE:Hid (Q2f t l = t.err):=by exact (by unfold Q2f; rw [if_neg he]:Q2f t l = t.err)
   have HL:Hid (Y4j t l = ⟨0,0⟩):=by exact (by unfold Y4j; rw [HIE.out,if_neg he]:Y4j t l = ⟨0,0⟩)
   have HH:Hid (X1r t l = ⟨0,0⟩):=by exact (by unfold X1r; rw [HIE.out,if_neg he]:X1r t l = ⟨0,0⟩)
   have hne:(t.err != 0) = true:=by simp [he]
   clear he;go_wp2_with (first | (refine Q0j rfl _ 85 rfl Tryz.Y0z Tryz.Q8d rfl hbo rfl ?_) | (refine Q0d rfl _ _ 85 rfl Tryz.Q8d rfl rfl hbr rfl rfl ?_ ?_; (focus (exact Q9h ⟨0,0⟩ ⟨0,0⟩)); intro w8 hb8 hl8 ho8))
   refine bodyPost_ret (Q0o Tryz.results48 rfl hb8 Tryz.Y0z Tryz.Q8d rfl) rfl ?_;exact ⟨by rw [HL.out,HH.out,HIE.out]; rfl,Below.trans HXX.out (hl8 _ (by omega))⟩
end Go.Proofs
