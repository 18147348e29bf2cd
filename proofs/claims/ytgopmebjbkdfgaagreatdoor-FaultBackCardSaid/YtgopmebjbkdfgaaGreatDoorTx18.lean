/- Contracts: Interval. Contracts: mapped over sets, checkSets, the closures of CheckCuts. Contracts: checkSets, the closures of CheckCuts. -/
import Derived.Test.YtgopmebjbkdfgaaGreatDoorTx17
import Derived.ChangeKeysEq
set_option maxRecDepth 1000000
set_option maxHeartbeats 64000000
set_option linter.unusedVariables false
set_option linter.unusedSimpArgs false
set_option linter.constructorNameAsVariable false
namespace Go.Proofs
open Go.RowKit Go.Tw Go.Flow
theorem X9t (w:World):(isAgg 3).run Tryz.prog w = .ok false w:=by kernel_rfl
theorem X7i (a b:List Int) (d:Nat) (w:World):∀ is:List Nat,(∀ i ∈ is,i < 12) -> (Op.eqItems (d + 1) 3 1 (chA a) (chA b) is).run Tryz.prog w = .ok (is.all fun i=>ix a i == ix b i) w
 | [],_=>rfl
 | i :: is,h=>by
   have hi:=h i (List.mem_cons_self ..);have ih:=X7i a b d w is (fun j hj=>h j (List.mem_cons_of_mem _ hj));have pa (c:List Int):(part 3 (chA c) (i * 1)).run Tryz.prog w = .ok (.int .i64 (ix c i)) w:=by
    unfold part;rw [Nat.mul_one];simp only [Sem.run_bind,X9t,Result.andThen_ok,Bool.false_eq_true,if_false,X8b c hi,Sem.run_pure]
   rw [Op.eqItems];simp only [Sem.run_bind,pa,Result.andThen_ok,run_equalIn_int w d 3 .i64 .i64 _ _ Tryz.underlying3];cases hq:(ix a i == ix b i) with
   | true=>simp [ih,hq]
   | false=>simp [hq]
def chB (a b:List Int):Bool:=(List.range 12).all fun i=>ix a i == ix b i
theorem X7s (w:World) (a b:List Int):(binOp .eql 124 (.agg (chA a)) (.agg (chA b))).run Tryz.prog w = .ok (.bool (chB a b)) w:=by
 obtain ⟨i,hi⟩:∃ i,Tryz.prog.info? 3 = some i:=by
  have h:=Tryz.info3;cases hh:Tryz.prog.info? 3 with
  | none=>rw [hh] at h; cases h
  | some i=>exact ⟨i,rfl⟩
 have hu:Tryz.prog.underlying 124 = some (.array 12 3):=by kernel_rfl
 have hc:Tryz.prog.cellsOf 3 = 1:=by kernel_rfl
 rw [run_eql_struct,show (10000:Nat) = 9998 + 1 + 1 from rfl,run_equalIn_array w (9998 + 1) _ _ hu hi,hc,X7i a b 9998 w _ (fun i hi=>List.mem_range.1 hi)]
 rfl
theorem Tryz.Y1r (w:World):(isAgg 89).run Tryz.prog w = .ok true w:=by kernel_rfl
theorem Tryz.Q7z (w:World):(sizeOf 89).run Tryz.prog w = .ok 4 w:=by kernel_rfl
def X3r (r s:Ratio):Array Value:=#[.int .i64 r.num,.int .i64 r.den,.int .i64 s.num,.int .i64 s.den]
theorem Q9j (r s:Ratio):∀ u ∈ (X3r r s).toList,u.oneCell' = true:=by
 intro u hu;simp only [X3r,List.mem_cons,List.not_mem_nil,or_false] at hu
 rcases hu with rfl | rfl | rfl | rfl <;> rfl
theorem Z7p (c:List Int):∀ u ∈ (chA c).toList,u.oneCell' = true:=by
 intro u hu; simp [chA] at hu; rcases hu with rfl | rfl | rfl | rfl | rfl | rfl | rfl | rfl | rfl | rfl | rfl | rfl <;> rfl
def Y1j (t:Tree) (l:List Int) (i:Nat):Int:=Q0g [Q0k (ix l i) 0 16,Q0l (decide (ix l i < ix t.Q0b i)) 11]
def X4y (t:Tree) (l:List Int):Int:=if l.length = t.size then Q0g ((List.range t.size).map (Y1j t l)) else 2
def Q3c (t:Tree) (l:List Int):Int:=if t.err = 0 then X4y t l else t.err
def Z1w (t:Tree) (l:List Int):Ratio:=if Q3c t l = 0 then lowest (Q1i t t.Q0b 0) (Q7g 16 t.size) else ⟨0,0⟩
def X6x (t:Tree) (l:List Int):Ratio:=if Q3c t l = 0 then lowest (Q1i t l 0) (Q7g 16 t.size) else ⟨0,0⟩
def Y2w (t:Tree) (l:List Int) (k:Nat):List Int:=(List.range t.size).map fun i=>if i < k then ix l i else ix t.Q0b i
theorem Y3m (t:Tree) (l:List Int) (k:Nat) {i:Nat} (hi:i < t.size):ix (Y2w t l k) i = if i < k then ix l i else ix t.Q0b i:=by
 unfold Y2w;rw [Q6t (by simpa using hi)]
 simp
theorem Y5n (t:Tree) (l:List Int) (k:Nat) {i:Nat} (hi:t.size <= i):ix (Y2w t l k) i = 0:=by
 unfold Y2w ix;simp [hi]
theorem Y8k (t:Tree) (l:List Int):Y2w t l 0 = t.Q0b:=by
 apply List.ext_getElem
 . rw [Q4v]; simp [Y2w]
 . intro i h1 h2
   simp only [Y2w,List.length_map,List.length_range] at h1;simp [Y2w,ix,h2]
theorem Z2i {t:Tree} {l:List Int} (h:l.length = t.size):Y2w t l t.size = l:=by
 apply List.ext_getElem
 . rw [h]; simp [Y2w]
 . intro i h1 h2
   simp only [Y2w,List.length_map,List.length_range] at h1;simp [Y2w,ix,h1,h2]
theorem Y9s (t:Tree) (l:List Int) {k:Nat} (hk:k < t.size) (i:Nat):ix (Y2w t l (k + 1)) i = if i = k then ix l k else ix (Y2w t l k) i:=by
 by_cases hi:i < t.size
 . rw [Y3m _ _ _ hi,Y3m _ _ _ hi]
   by_cases h:i = k
   . subst h; simp
   . rw [if_neg h]
     by_cases h2:i < k
     . rw [if_pos h2,if_pos (by omega)]
     . rw [if_neg h2,if_neg (by omega)]
 . rw [Y5n _ _ _ (by omega),Y5n _ _ _ (by omega),if_neg (by omega)]
theorem Y3f {t:Tree} {l:List Int} {i:Nat} (h:Y1j t l i = 0):0 <= ix l i /\ ix l i <= 16:=by
 unfold Y1j at h;rw [Q1h] at h;have:=h (Q0k (ix l i) 0 16) (by simp)
 unfold Q0k at this
 split at this
 . cases this
 . omega
theorem Z9h {a b:List Int} (h:chB a b = true) (ha:a.length <= 12) (hl:a.length = b.length):a = b:=by
 unfold chB at h;rw [List.all_eq_true] at h
 apply List.ext_getElem hl
 intro i h1 h2;have:=h i (List.mem_range.2 (by omega))
 rw [beq_iff_eq,Q6t h1,Q6t h2] at this;exact this
theorem X0h {P:Program} {w:World} {ops:Array Oper} {rest:List Oper} {o:Oper} {a:Act} {Q:Exit -> Act -> World -> Prop} (hg:o.guard = none) (x y:Operand) (T T2:TypeId) (hop:o.op = .binOp .eql T x y T2) {xs ys:Array Value} (hx:a.eval x = .agg xs) (hy:a.eval y = .agg ys)
    {r:Bool} (hr:∀ w,(binOp .eql T (.agg xs) (.agg ys)).run P w = .ok (.bool r) w) (hm:P.eqGuardType P.depth T = false) (hK:wpList P ops Q rest (a.put o.dst (.bool r)) w):wpList P ops Q (o :: rest) a w:=by
 refine wpList_plain hg fun K' hK'=>?_;unfold Oper.wp;have hr2:(execOp a.eval o).run P w = .ok (.value (.bool r)) w:=by
  unfold execOp;simp only [hop,hx,hy,Sem.run_bind,run_eqGuard_agg w .eql T x y xs ys hm,Result.andThen_ok,hr,Sem.run_pure]
 rw [hr2];exact hK' _ _ hK
theorem X2x (w:World) (a b c d:Int):(Instr.build 89 #[(0,.agg #[.int .i64 a,.int .i64 b]),(1,.agg #[.int .i64 c,.int .i64 d])]).run Tryz.prog w = .ok (.agg #[.int .i64 a,.int .i64 b,.int .i64 c,.int .i64 d]) w:=by
 kernel_rfl
theorem X2z {w:World} {o:Oper} {a:Act} (x y:Operand) (hop:o.op = .build 89 #[(0,x),(1,y)]) (r s:Ratio) (hx:a.eval x = .agg (encR r)) (hy:a.eval y = .agg (encR s)):(execOp a.eval o).run Tryz.prog w = .ok (.value (.agg (X3r r s))) w:=by
 unfold execOp;simp only [hop,List.map_toArray,List.map_cons,List.map_nil,hx,hy,Sem.run_bind,encR,X2x,Result.andThen_ok,Sem.run_pure];rfl
theorem X5t {w:World} {ops:Array Oper} {rest:List Oper} {o:Oper} {a:Act} {Q:Exit -> Act -> World -> Prop} (hg:o.guard = none) (x y:Operand) (hop:o.op = .build 89 #[(0,x),(1,y)]) (r s:Ratio) (hx:a.eval x = .agg (encR r)) (hy:a.eval y = .agg (encR s))
    (hK:wpList Tryz.prog ops Q rest (a.put o.dst (.agg (X3r r s))) w):wpList Tryz.prog ops Q (o :: rest) a w:=by
 refine wpList_plain hg fun K' hK'=>?_;unfold Oper.wp;rw [X2z x y hop r s hx hy];exact hK' _ _ hK
theorem Tryz.Y1n:Tryz.prog.eqGuardType Tryz.prog.depth 124 = false:=by kernel_rfl
theorem X9v (w:World) (v u:Value) (t:Tree) (l:List Int) (ht:IsTree w v t) (hl:Q0e w u l) :
    Calls Tryz.prog 44 #[v,u] w fun e w'=>e = .returned (.tuple #[.agg (X3r (Z1w t l) (X6x t l)),.int .i64 (Q3c t l)]) /\ Ext w w':=by
 obtain ⟨Au,capu,rfl,hll,hlc,hcc⟩:=hl.opened;have HCC:=Lib.hid hcc;clear hl hcc;obtain ⟨a,b,c,rfl,h3⟩:=ht;obtain ⟨A,capa,rfl,hl1,hcap1,_⟩:=h3.basics.opened;obtain ⟨B,capb,rfl,hl2,hcap2,_⟩:=h3.causes.opened;obtain ⟨G,capg,rfl,hl3,hcap3,_⟩:=h3.gates.opened;have HT0:=Lib.hid h3;clear h3;go_enter Tryz.func44,Tryz.ntmps44;go_wp2_with fail;change Calls _ _ _ (((w.alloc (.cells #[.slice A t.basics.length capa,.slice B t.causes.length capb,.slice G t.gates.length capg] 33)).alloc (.cells #[.int .i64 0,.int .i64 0,.int .i64 0,.int .i64 0] 89)).alloc (.cells #[.int .i64 0,.int .i64 0,.int .i64 0,.int .i64 0] 89)) _;obtain ⟨W,hWW,k0,k1,k2,HXW,eW⟩:=X8e w 33 #[.slice A t.basics.length capa,.slice B t.causes.length capb,.slice G t.gates.length capg] 89 #[.int .i64 0,.int .i64 0,.int .i64 0,.int .i64 0] 89 #[.int .i64 0,.int .i64 0,.int .i64 0,.int .i64 0];rw [hWW];clear hWW;have HT:=Lib.hid (HT0.out.ext HXW.out);refine (Q1y _ _ t ⟨_,_,_,rfl,HT.out⟩).mono ?_;rintro e w1 ⟨rfl,hx1⟩;have kt:=k0.ext hx1;have c0:=kt.cell 0;have c1:=kt.cell 1;have c2:=kt.cell 2;simp only [Go.Tw.gA,Go.Tw.gB,Go.Tw.gC] at c0 c1 c2;have HXX:=Lib.hid (HXW.out.trans hx1);have HX1:=Lib.hid hx1;clear kt hx1;have hbr:=k1.ext HX1.out;have hbo:=k2.ext HX1.out;clear k0 k1 k2
 by_cases he:t.err = 0
 . have HIE:Hid (Q3c t l = X4y t l):=Lib.hid (by unfold Q3c; rw [if_pos he])
   have hV:=Valid.of he;have HV:=Lib.hid hV;have HE0:=Lib.hid he;have hsz:=hV.size;have hne:(t.err != 0) = false:=by simp [he]
   clear he hV;go_wp2_with fail;refine (Q3i _ _ t HV.out ⟨_,_,_,rfl,HT.out.ext HX1.out⟩).mono ?_;rintro e w2 ⟨fv,gv,rfl,hn,hx2⟩;obtain ⟨A1,cap1,rfl,_,_,_⟩:=hn.fails.opened;obtain ⟨A2,cap2,rfl,_,_,_⟩:=hn.gates.opened;rw [Q2g] at hn ⊢;have HN:=Lib.hid hn;have HX2:=Lib.hid hx2;clear hn hx2 c0 c1 c2;replace hbr:=hbr.ext HX2.out;replace hbo:=hbo.ext HX2.out;have hbl:=hbo.lt
   by_cases hlen:l.length = t.size
   . have hln:((l.length:Int) != (t.size:Int)) = false:=by rw [hlen]; simp
     have HME:Hid (X4y t l = Q0g ((List.range t.size).map (Y1j t l))):=Lib.hid (by unfold X4y; rw [if_pos hlen])
     have HLEN:=Lib.hid hlen;clear hlen;go_wp2_with (first | (refine Q0c rfl _ _ 129 rfl Tryz.Q0r rfl rfl (Blk.made _ _ _) rfl rfl ?_ ?_; (focus (intro u hu; simp [outA] at hu; rcases hu with rfl | rfl | rfl | rfl | rfl | rfl | rfl | rfl | rfl | rfl | rfl | rfl | rfl | rfl | rfl | rfl <;> rfl)); intro w9 hb9 hl9 ho9); have n0:=hb9.cell 0; simp only [outA,Go.Tw.gA,Go.Tw.gB] at n0 | (refine Q1x rfl _ 124 rfl Tryz.Q6u Tryz.Q3z rfl (Q1w hb9) rfl ?_) | (refine Q0c rfl _ _ 124 rfl Tryz.Q3z rfl rfl (Blk.made _ _ _) rfl rfl ?_ ?_; (focus (exact Z7p _)); intro w3 hb3 hl3' ho3))
     have hx9:Ext w2 w9:=Below.trans (Ext.box w2 _) (hl9 _ (Nat.le_refl _));have HXX9:Hid (Ext w w9):=by exact (HXX.out.trans HX2.out).trans hx9
     have HN9:=Lib.hid (HN.out.ext hx9);replace hbr:=hbr.ext hx9;replace hbo:=hbo.ext hx9;have HB9:Hid (Blk w9 w2.heap.size 129 (outA t.size (.slice A1 t.size cap1) t.Q0b t.basics.length (.slice A2 t.gates.length cap2))):=by exact hb9
     have HCL:=Lib.hid (Q4v t);have HSM:=Lib.hid HV.out.small;have hg9:=hb9.lt;clear hl9 ho9 hb9 hx9 n0;have hx3:Ext w9 w3:=Below.trans (Ext.box w9 _) (hl3' _ (Nat.le_refl _));obtain ⟨g,hg⟩:∃ g,w9.heap.size = g:=⟨_,rfl⟩;have hgl:g < w3.heap.size:=by rw [<- hg]; exact hb3.lt
     rw [hg] at hb3 hg9 ⊢;have hbog:w.heap.size + 1 + 1 < g:=by rw [<- hg]; exact hbo.lt
     rw [<- Y8k t l] at hb3;have HB3:=Lib.hid hb3;have HBN:=Lib.hid (HB9.out.ext hx3);have HBR:=Lib.hid (hbr.ext hx3);have HBO:=Lib.hid (hbo.ext hx3);have HN':Hid (∀ W,Below g w3 W -> Y2t W (.slice A1 t.size cap1) (.slice A2 t.gates.length cap2) t):=Lib.hid (fun W hB=>HN9.out.ext (Below.trans hx3 (hB.mono (by omega))))
     have HXX3:=Lib.hid (HXX9.out.trans hx3);have hwg:w.heap.size < g:=by omega
     clear hl3' ho3 hx3 hg hbr hbo hb3
     go_loopw [34] (fun i wr=>∃ (k:Nat),k <= t.size /\ i = .int .i64 k /\ (∀ j,j < k -> Y1j t l j = 0) /\ Blk wr g 124 (chA (Y2w t l k)) /\ Below g w3 wr) (fun i _=>t.size - (intOf i).toNat)
     case atStart=>exact ⟨0,Nat.zero_le _,rfl,fun j hj=>by omega,HB3.out,Below.refl _ _⟩
     case round =>
      obtain ⟨k,hk,rfl,hz,hb,hbel⟩:=hrel;have HZ:=Lib.hid hz;have HB:=Lib.hid hb;have HBEL:=Lib.hid hbel;have hgr:=hb.lt;have HLQ:=HLEN.out
      by_cases hlt:k < t.size
      . obtain ⟨b0,off,rfl,hce⟩:=HCC.out k (by omega)
        have hb0:b0 < w.heap.size:=World.block_lt_of_cell? w _ hce;replace hce:=(hbel.cell (p:=⟨b0,off + k,none⟩) (by show b0 < g; omega)).trans (HXX3.out.cell hce)
        have nh:=hb.cell k;have nf:=hb.frozen k;rw [X8b _ (by omega),Y3m _ _ _ hlt,if_neg (by omega)] at nh
        have HME2:Hid (Y1j t l k = Q0g [Q0k (ix l k) 0 16,Q0l (decide (ix l k < ix t.Q0b k)) 11]):=by exact (rfl:Y1j t l k = _)
        obtain ⟨c,hc⟩:∃ c,ix l k = c:=⟨_,rfl⟩;obtain ⟨y,hy⟩:∃ y,ix t.Q0b k = y:=⟨_,rfl⟩;obtain ⟨bl,hbl'⟩:∃ b,decide (c < y) = b:=⟨_,rfl⟩;rw [hc,hy,hbl'] at HME2;rw [hc] at hce;rw [hy] at nh;have HC:=Lib.hid hc;obtain ⟨E,hE⟩:∃ E,Q0g [Q0k c 0 16,Q0l bl 11] = E:=⟨_,rfl⟩;have HE:Hid (∀ (w':World) (u:Value),Q0e w' u [Q0k c 0 16,Q0l bl 11] -> Calls Tryz.prog 48 #[u] w' fun e w''=>e = .returned (.int .i64 E) /\ w' = w''):=by
         exact (by intro w' u h; rw [<- hE]; exact first_any _ _ _ h:∀ (w':World) (u:Value),Q0e w' u [Q0k c 0 16,Q0l bl 11] -> Calls Tryz.prog 48 #[u] w' fun e w''=>e = .returned (.int .i64 E) /\ w' = w'')
        rw [hE] at HME2;have hkI:(k:Int) < 12:=by omega
        have hkl:(k:Int) < (l.length:Int):=by omega
        have hdr:=(Ext.refl wr).drew;clear hc hy hE hz hb hbel HLQ;go_wp2;refine Flow.Q2p [.p,.w,.p,.p,.p,.w,.p,.w,.w,.w,.p] [0,1,2,3,4,5,6,7,8,9,10] [[],[0],[],[],[3],[4],[2,5],[1,6],[1,7],[7,8],[0,1,2,3,4,5,6,7,8,9]]
         [.c 0 (.int .i64 c),.c 1 (.int .i64 (Q0k c 0 16)),.c 2 (.int .i64 c),.c 3 (.int .i64 k),.c 4 (.pointer (some ⟨g,k,none⟩)),.c 5 (.int .i64 y),.c 6 (.bool bl),.c 7 (.int .i64 (Q0l bl 11)),⟨fun v wz=>Q0e wz (v 8) [Q0k c 0 16,Q0l bl 11],fun _ _ _ hx h=>h.ext hx⟩,.c 9 (.int .i64 E),.c 10 (.int .i64 E)]
         (by kernel_rfl) rfl (by kernel_rfl) ⟨?g0,?g1,?g2,?g3,?g4,?g5,?g6,?g7,?g8,?g9,?g10,trivial⟩ ?post
        case g0 | g2 | g3=>
         intro v w1 hx;intro bb hbb;subst hbb;refine ⟨_,fun w=>?_,rfl⟩;go_simp
        case g1=>
         intro v w1 hx;(repeat intro (zq:v _ = _));intro bb hbb;subst hbb;intro K hK;go_simp;refine Q0d (X0a _ _ _ _) ?_;rintro e w2 ⟨rfl,rfl⟩;exact ⟨_,rfl,hK _ _ (Ext.refl _) rfl⟩
        case g4 | g6=>
         intro v w1 hx;(repeat intro (zq:v _ = _));intro bb hbb;subst hbb;refine ⟨_,fun w=>?_,rfl⟩;go_simp
        case g5=>
         intro v w1 hx;(repeat intro (zq:v _ = _));intro bb hbb;subst hbb;have nh:=hx.cell nh;intro K hK;go_simp;exact hK _ _ (Ext.refl _) rfl
        case g7=>
         intro v w1 hx;(repeat intro (zq:v _ = _));intro bb hbb;subst hbb;intro K hK;go_simp;refine Q0d (Q5j _ _ _) ?_;rintro e w2 ⟨rfl,rfl⟩;exact ⟨_,rfl,hK _ _ (Ext.refl _) rfl⟩
        case g8=>
         intro v w1 hx;(repeat intro (zq:v _ = _));intro bb hbb;subst hbb;intro K hK;go_simp;exact hK _ _ (Ext.box _ _) (Q3h (l:=[Q0k c 0 16,Q0l bl 11]) (by simp))
        case g9=>
         intro v w1 hx (q7:v 7 = _) (q8:Q0e w1 (v 8) [Q0k c 0 16,Q0l bl 11]);intro bb hbb;subst hbb;intro K hK;go_simp;refine Q0d (HE.out _ _ q8) ?_;rintro e w2 ⟨rfl,rfl⟩;exact ⟨_,rfl,hK _ _ (Ext.refl _) rfl⟩
        case g10=>
         intro v w1 hx (q0:v 0 = _) (q1:v 1 = _) (q2:v 2 = _) (q3:v 3 = _) (q4:v 4 = _) (q5:v 5 = _) (q6:v 6 = _) (q7:v 7 = _) _ (q9:v 9 = _);intro bb hbb;subst hbb;refine ⟨_,fun w=>?_,rfl⟩;go_simp
        case post =>
         intro v w1 hx;(iterate 8 intro (zq:v _ = _));intro (q8:Q0e w1 (v 8) [Q0k c 0 16,Q0l bl 11]);(iterate 2 intro (zq:v _ = _));simp only [Flow.All,Flow.acts,Act.put];go_simp;have hxx:=hdr.trans hx;have HX:=Lib.hid hxx;have HB5:=Lib.hid (HB.out.ext hxx);have HBEL5:=Lib.hid (HBEL.out.trans (hxx.mono (by omega)))
         have nh2:=(HB.out.ext hxx).cell k;have nf2:=(HB.out.ext hxx).frozen k;rw [X8b _ (by omega)] at nh2
         clear hx hxx nh nf hbl'
         by_cases hE0:E = 0
         . have hne2:(E != 0) = false:=by simp [hE0]
           have HE0':=Lib.hid (HME2.out.trans hE0);clear hE0;go_wp2;go_roundw
           case rel=>exact ⟨k + 1,by omega,by go_num,(fun j hj=>by rcases Nat.lt_or_ge j k with h | h; exact HZ.out j h; rw [show j = k from by omega]; exact HE0'.out),(by have h:=HB5.out.set k (.int .i64 c); rw [Y8n (d:=Y2w t l (k + 1)) (by omega) (fun i _=>by rw [Y9s t l hlt i,HC.out])] at h; exact h),HBEL5.out.setCell (p:=⟨g,k,none⟩) (Nat.le_refl _) _⟩
           case measure=>simp [intOf]; omega
         . have hne2:(E != 0) = true:=by simp [hE0]
           have HEF:Hid (Q3c t l = E):=Lib.hid (by rw [HIE.out,HME.out,<- List.append_nil ((List.range t.size).map (Y1j t l)),Q6y hlt HZ.out (by rw [HME2.out]; exact hE0),HME2.out])
           have HL:Hid (Z1w t l = ⟨0,0⟩):=Lib.hid (by unfold Z1w; rw [HEF.out,if_neg hE0])
           have HH:Hid (X6x t l = ⟨0,0⟩):=Lib.hid (by unfold X6x; rw [HEF.out,if_neg hE0])
           have hbo5:=(HBO.out.below HBEL5.out (by omega))
           have hbr5:=(HBR.out.below HBEL5.out (by omega))
           clear hE0;go_wp2_with (first | (refine Q0i rfl _ 89 rfl Tryz.Y1r Tryz.Q7z rfl hbo5 rfl ?_) | (refine Q0c rfl _ _ 89 rfl Tryz.Q7z rfl rfl hbr5 rfl rfl ?_ ?_; (focus (exact Q9j ⟨0,0⟩ ⟨0,0⟩)); intro w8 hb8 hl8 ho8))
           refine bodyPost_ret (Q0q Tryz.results44 rfl hb8 Tryz.Y1r Tryz.Q7z rfl) rfl ?_;exact ⟨by rw [HL.out,HH.out,HEF.out]; rfl,Below.trans (Below.trans HXX3.out (HBEL5.out.mono (by omega))) (hl8 _ (by omega))⟩
      . have e:k = t.size:=by omega
        subst e;have HI0:Hid (Q3c t l = 0):=Lib.hid (by rw [HIE.out,HME.out,Q1h]; intro x hx; obtain ⟨i,hi,rfl⟩:=List.mem_map.1 hx; exact HZ.out i (List.mem_range.1 hi))
        have HL:Hid (Z1w t l = lowest (Q1i t t.Q0b 0) (Q7g 16 t.size)):=Lib.hid (by unfold Z1w; rw [if_pos HI0.out])
        have HH:Hid (X6x t l = lowest (Q1i t l 0) (Q7g 16 t.size)):=Lib.hid (by unfold X6x; rw [if_pos HI0.out])
        have HSL:Hid (Small l):=Lib.hid (⟨by rw [HLEN.out]; exact hsz,fun x hx=>by obtain ⟨i,hi,rfl⟩:=List.getElem_of_mem hx; rw [<- Q6t hi]; exact Y3f (HZ.out i (by rw [HLEN.out] at hi; exact hi))⟩)
        rw [Z2i HLEN.out] at hb;have HB2:=Lib.hid hb;have HNR:=Lib.hid (HN'.out wr hbel);have HBW:=Lib.hid (HBN.out.below hbel (by omega))
        have HXR:=Lib.hid (Below.trans HXX3.out (hbel.mono (by omega)))
        have HBR2:=Lib.hid (HBR.out.below hbel (by omega))
        have hnl:¬ t.size < l.length:=by rw [HLEN.out]; omega
        clear hz hb hbel HLQ HB HBEL;cases hq:chB l t.Q0b with
        | true =>
          have HEQ:=Lib.hid (Z9h hq HSL.out.len (by rw [HLEN.out,HCL.out]))
          go_wp2_with (first | (refine Q0i rfl _ 129 rfl Tryz.Q1s Tryz.Q0r rfl HBW.out rfl ?_) | (refine Q1x rfl _ 124 rfl Tryz.Q6u Tryz.Q3z rfl (Q1w HBW.out) rfl ?_) | fail)
          refine (Q4f _ _ _ t t.Q0b t.Q0b HV.out HNR.out HSM.out HCL.out).mono ?_;rintro e w4 ⟨rfl,hx4⟩;have HHI0:=Lib.hid (HB2.out.ext hx4);have HBN0:=Lib.hid (HBW.out.ext hx4);have HBR0:=Lib.hid (HBR2.out.ext hx4);go_wp2_with (first | (refine Q0c rfl _ _ 52 rfl Tryz.Q1q rfl rfl (Blk.made _ _ _) rfl rfl ?_ ?_; (focus (exact Q5z _ _)); intro w5 hb5 hl5 ho5; have hx5:Ext w4 w5:=Below.trans (Ext.box w4 _) (hl5 _ (Nat.le_refl _))) | (refine Q0i rfl _ 124 rfl Tryz.Q6u Tryz.Q3z rfl (HHI0.out.ext hx5) rfl ?_) | (refine Q1x rfl _ 124 rfl Tryz.Q6u Tryz.Q3z rfl (Q1w (HBN0.out.ext hx5)) rfl ?_) | (refine X0h rfl _ _ 124 _ rfl rfl rfl (fun w=>X7s w l t.Q0b) Tryz.Y1n ?_; rw [hq]) | (refine Q0i rfl _ 52 rfl Tryz.Q5d Tryz.Q1q rfl hb5 rfl ?_) | (refine X5t rfl _ _ rfl (lowest (Q1i t t.Q0b 0) (Q7g 16 t.size)) (lowest (Q1i t t.Q0b 0) (Q7g 16 t.size)) rfl rfl ?_) | (refine Q0c rfl _ _ 89 rfl Tryz.Q7z rfl rfl (HBR0.out.ext hx5) rfl rfl ?_ ?_; (focus (exact Q9j _ _)); intro w8 hb8 hl8 ho8))
          refine bodyPost_ret (Q0q Tryz.results44 rfl hb8 Tryz.Y1r Tryz.Q7z rfl) rfl ?_;exact ⟨by rw [HL.out,HH.out,HI0.out,HEQ.out]; rfl,Below.trans (Ext.trans HXR.out (hx4.trans hx5)) (hl8 _ (by omega))⟩
        | false =>
          go_wp2_with (first | (refine Q0i rfl _ 129 rfl Tryz.Q1s Tryz.Q0r rfl HBW.out rfl ?_) | (refine Q1x rfl _ 124 rfl Tryz.Q6u Tryz.Q3z rfl (Q1w HBW.out) rfl ?_) | fail)
          refine (Q4f _ _ _ t t.Q0b t.Q0b HV.out HNR.out HSM.out HCL.out).mono ?_;rintro e w4 ⟨rfl,hx4⟩;have HHI0:=Lib.hid (HB2.out.ext hx4);have HBN0:=Lib.hid (HBW.out.ext hx4);have HBR0:=Lib.hid (HBR2.out.ext hx4);have HNR0:=Lib.hid (HNR.out.ext hx4);go_wp2_with (first | (refine Q0c rfl _ _ 52 rfl Tryz.Q1q rfl rfl (Blk.made _ _ _) rfl rfl ?_ ?_; (focus (exact Q5z _ _)); intro w5 hb5 hl5 ho5; have hx5:Ext w4 w5:=Below.trans (Ext.box w4 _) (hl5 _ (Nat.le_refl _))) | (refine Q0i rfl _ 124 rfl Tryz.Q6u Tryz.Q3z rfl (HHI0.out.ext hx5) rfl ?_) | (refine Q1x rfl _ 124 rfl Tryz.Q6u Tryz.Q3z rfl (Q1w (HBN0.out.ext hx5)) rfl ?_) | (refine X0h rfl _ _ 124 _ rfl rfl rfl (fun w=>X7s w l t.Q0b) Tryz.Y1n ?_; rw [hq]) | fail)
          have HHI5:=Lib.hid (HHI0.out.ext hx5);have HBN5:=Lib.hid (HBN0.out.ext hx5);have HBR5:=Lib.hid (HBR0.out.ext hx5);have HB5:Hid (Blk w5 w4.heap.size 52 (encR (lowest (Q1i t t.Q0b 0) (Q7g 16 t.size)))):=by exact hb5
          have HXX5:=Lib.hid (Ext.trans HXR.out (hx4.trans hx5));have hbl5:=HBR5.out.lt;have HPR:Hid (∀ w',Ext w5 w' -> Calls Tryz.prog 71 #[noV t t.Q0b (.slice A1 t.size cap1) (.slice A2 t.gates.length cap2),chV l] w' fun e w''=>e = .returned (.agg (encR (lowest (Q1i t l 0) (Q7g 16 t.size)))) /\ Ext w' w''):=by
           exact (fun w' hx=>Q4f w' _ _ t t.Q0b l HV.out (HNR0.out.ext (hx5.trans hx)) HSL.out HLEN.out:∀ w',Ext w5 w' -> Calls Tryz.prog 71 #[noV t t.Q0b (.slice A1 t.size cap1) (.slice A2 t.gates.length cap2),chV l] w' fun e w''=>e = .returned (.agg (encR (lowest (Q1i t l 0) (Q7g 16 t.size)))) /\ Ext w' w'')
          obtain ⟨lo,hlo⟩:∃ r,lowest (Q1i t t.Q0b 0) (Q7g 16 t.size) = r:=⟨_,rfl⟩;obtain ⟨hi,hhi⟩:∃ r,lowest (Q1i t l 0) (Q7g 16 t.size) = r:=⟨_,rfl⟩;rw [hlo] at HB5 HL;rw [hhi] at HPR HH;have hdr:=(Ext.refl w5).drew;clear hb5 hl5 ho5 hx4 hx5 hlo hhi hq;refine Flow.Q3x [.w,.w,.w,.w,.p,.last,.last] [0,1,2,3,4,5,6] [[],[],[],[1,2],[0,1,2,3],[0,1,2,3,4],[0,1,2,3,4,5]] [5,6]
           [.c 0 (.agg (encR lo)),.c 1 (noV t t.Q0b (.slice A1 t.size cap1) (.slice A2 t.gates.length cap2)),.c 2 (chV l),.c 3 (.agg (encR hi)),.c 4 (.agg (X3r lo hi)),.none,.none]
           [fun v w1 w'=>Blk w' (w.heap.size + 1) 89 (X3r lo hi) /\ Below w.heap.size w1 w',fun v w1 w'=>v 6 = .int .i64 0 /\ Blk w' (w.heap.size + 1) 89 (X3r lo hi) /\ Below w.heap.size w1 w'] (by kernel_rfl) rfl (by kernel_rfl) ⟨?g0,?g1,?g2,?g3,?g4,?g5,?g6,trivial⟩ ?post
          case g0=>
           intro v w1 hx;intro bb hbb;intro K hK;have o1:bb.eval (.tmp 13) = .pointer (some ⟨w4.heap.size,0,none⟩):=by rw [hbb]; dsimp only; (try simp (discharger:=decide) only [eval_put_ne]); rfl
           exact Q0n (.tmp 13) _ rfl Tryz.Q5d Tryz.Q1q o1 (HB5.out.ext (hdr.trans hx)) rfl (hK _ _ (Ext.refl _) rfl)
          case g1=>
           intro v w1 hx;intro bb hbb;intro K hK;have o1:bb.eval (.tmp 8) = .pointer (some ⟨w2.heap.size,0,none⟩):=by rw [hbb]; dsimp only; (try simp (discharger:=decide) only [eval_put_ne]); rfl
           exact Q0n (.tmp 8) _ rfl Tryz.Q1s Tryz.Q0r o1 (HBN5.out.ext (hdr.trans hx)) rfl (hK _ _ (Ext.refl _) rfl)
          case g2=>
           intro v w1 hx;intro bb hbb;intro K hK;have o1:bb.eval (.tmp 9) = .pointer (some ⟨g,0,none⟩):=by rw [hbb]; dsimp only; (try simp (discharger:=decide) only [eval_put_ne]); rfl
           exact Q0n (.tmp 9) _ rfl Tryz.Q6u Tryz.Q3z o1 (HHI5.out.ext (hdr.trans hx)) rfl (hK _ _ (Ext.refl _) rfl)
          case g3=>
           intro v w1 hx;(repeat intro (zq:v _ = _));intro bb hbb;subst hbb;intro K hK;go_simp;refine Q0d (HPR.out _ (hdr.trans hx)) ?_;rintro e w2 ⟨rfl,hx2⟩;exact ⟨_,rfl,hK _ _ hx2 rfl⟩
          case g4=>
           intro v w1 hx;(repeat intro (zq:v _ = _));intro bb hbb;have o1:bb.eval (.tmp 70) = .agg (encR lo):=by rw [hbb]; dsimp only; (try simp (discharger:=decide) only [eval_put_ne]); rw [Q0a (by simp only [size_put]; exact (by decide:70 < 75))]; assumption
           have o2:bb.eval (.tmp 73) = .agg (encR hi):=by rw [hbb]; dsimp only; (try simp (discharger:=decide) only [eval_put_ne]); rw [Q0a (by simp only [size_put]; exact (by decide:73 < 75))]; assumption
           exact ⟨.agg (X3r lo hi),fun w=>X2z (.tmp 70) (.tmp 73) rfl lo hi o1 o2,rfl⟩
          case g5=>
           intro v w1 hx;(repeat intro (zq:v _ = _));intro wl hT;obtain rfl:wl = w1:=hT;intro bb hbb;intro K hK;have o1:bb.eval (.tmp 4) = .pointer (some ⟨w.heap.size + 1,0,none⟩):=by rw [hbb]; dsimp only; (try simp (discharger:=decide) only [eval_put_ne]); rfl
           have o2:bb.eval (.tmp 74) = .agg (X3r lo hi):=by rw [hbb]; dsimp only; (try simp (discharger:=decide) only [eval_put_ne]); rw [Q0a (by simp only [size_put]; exact (by decide:74 < 75))]; assumption
           exact Q2z (.tmp 4) (.tmp 74) _ rfl Tryz.Q7z o1 o2 (HBR5.out.ext (hdr.trans hx)) rfl rfl (Q9j _ _) (fun vv w' hb hl ho=>hK _ _ ⟨hb,hl _ (by omega)⟩)
          case g6=>
           intro v w1 hx;(repeat intro (zq:v _ = _));intro wl hT;replace hT:(fun v w1 w'=>Blk w' (w.heap.size + 1) 89 (X3r lo hi) /\ Below w.heap.size w1 w') v w1 wl:=hT;intro bb hbb;subst hbb;intro K hK;go_simp;exact hK _ _ ⟨rfl,hT⟩
          case post =>
           intro v w1 hx;(iterate 5 intro (zq:v _ = _));intro w2 hE;replace hE:(fun v w1 w'=>v 6 = .int .i64 0 /\ Blk w' (w.heap.size + 1) 89 (X3r lo hi) /\ Below w.heap.size w1 w') v w1 w2:=hE;simp only [Flow.acts,Act.put];go_simp;obtain ⟨hz9,hb8,hl8⟩:=hE;go_wp2;refine bodyPost_ret (Q0q Tryz.results44 rfl hb8 Tryz.Y1r Tryz.Q7z rfl) rfl ?_;exact ⟨by rw [HL.out,HH.out,HI0.out]; simp [hz9],Below.trans (HXX5.out.trans (hdr.trans hx)) hl8⟩
   . have hln:((l.length:Int) != (t.size:Int)) = true:=by rw [bne_iff_ne]; omega
     have HEF:Hid (Q3c t l = 2):=Lib.hid (by rw [HIE.out]; unfold X4y; rw [if_neg hlen])
     have HL:Hid (Z1w t l = ⟨0,0⟩):=Lib.hid (by unfold Z1w; rw [HEF.out,if_neg (by decide)])
     have HH:Hid (X6x t l = ⟨0,0⟩):=Lib.hid (by unfold X6x; rw [HEF.out,if_neg (by decide)])
     clear hlen;go_wp2_with (first | (refine Q0c rfl _ _ 129 rfl Tryz.Q0r rfl rfl (Blk.made _ _ _) rfl rfl ?_ ?_; (focus (intro u hu; simp [outA] at hu; rcases hu with rfl | rfl | rfl | rfl | rfl | rfl | rfl | rfl | rfl | rfl | rfl | rfl | rfl | rfl | rfl | rfl <;> rfl)); intro w9 hb9 hl9 ho9); have n0:=hb9.cell 0; have hx9:Ext w2 w9:=Below.trans (Ext.box w2 _) (hl9 _ (Nat.le_refl _)); simp only [outA,Go.Tw.gA,Go.Tw.gB] at n0 | (refine Q0i rfl _ 89 rfl Tryz.Y1r Tryz.Q7z rfl (hbo.ext hx9) rfl ?_) | (refine Q0c rfl _ _ 89 rfl Tryz.Q7z rfl rfl (hbr.ext hx9) rfl rfl ?_ ?_; (focus (exact Q9j ⟨0,0⟩ ⟨0,0⟩)); intro w8 hb8 hl8 ho8))
     have HXX9:Hid (Ext w w9):=by exact (HXX.out.trans HX2.out).trans hx9
     refine bodyPost_ret (Q0q Tryz.results44 rfl hb8 Tryz.Y1r Tryz.Q7z rfl) rfl ?_;exact ⟨by rw [HL.out,HH.out,HEF.out]; rfl,Below.trans HXX9.out (hl8 _ (by omega))⟩
 . have HIE:Hid (Q3c t l = t.err):=Lib.hid (by unfold Q3c; rw [if_neg he])
   have HL:Hid (Z1w t l = ⟨0,0⟩):=Lib.hid (by unfold Z1w; rw [HIE.out,if_neg he])
   have HH:Hid (X6x t l = ⟨0,0⟩):=Lib.hid (by unfold X6x; rw [HIE.out,if_neg he])
   have hne:(t.err != 0) = true:=by simp [he]
   clear he;go_wp2_with (first | (refine Q0i rfl _ 89 rfl Tryz.Y1r Tryz.Q7z rfl hbo rfl ?_) | (refine Q0c rfl _ _ 89 rfl Tryz.Q7z rfl rfl hbr rfl rfl ?_ ?_; (focus (exact Q9j ⟨0,0⟩ ⟨0,0⟩)); intro w8 hb8 hl8 ho8))
   refine bodyPost_ret (Q0q Tryz.results44 rfl hb8 Tryz.Y1r Tryz.Q7z rfl) rfl ?_;exact ⟨by rw [HL.out,HH.out,HIE.out]; rfl,Below.trans HXX.out (hl8 _ (by omega))⟩
end Go.Proofs
namespace Go.Proofs
open Go.RowKit Go.Tw Go.Flow
theorem Tryz.Z0o:(Tryz.prog.info? 34).map (fun i=>(i.zero,i.size,i.bytes)) = some (some (.int .i64 0),1,8):=by kernel_rfl
theorem X1n {α β:Type} (f:List α -> β) (ll:List (List α)) {k:Nat} (hk:k < ll.length):(ll.map f).take k ++ [f (ll.getD k [])] = (ll.map f).take (k + 1):=by
 rw [List.take_succ_eq_append_getElem (by simpa using hk)]
 simp [hk]
theorem X6g (w:World) (v:Value) (ll:List (List Int)) (hv:Q1v w v ll) (hle:ll.length <= 4096) (hm:∀ l ∈ ll,∀ x ∈ l,0 <= x /\ x < 62) :
    Calls Tryz.prog 96 #[v,.func (.func 87) #[] #[]] w fun e w'=>∃ x,e = .returned x /\ Q0e w' x (ll.map fun l=>(Q1n l:Int)) /\ Ext w w':=by
 obtain ⟨i0,hi,hz0,hz1,hz2⟩:=info_parts Tryz.info3;obtain ⟨A,cap,rfl,hl,hcap,hc⟩:=hv.opened;have HC:=Lib.hid hc;have HM:=Lib.hid hm;clear hv hc hm;go_enter Tryz.func96,Tryz.ntmps96;go_wp2
 go_loopw [5,10] (fun o i wr=>∃ (k:Nat),k <= ll.length /\ i = .int .i64 k /\ Q0s wr w.heap.size 3 (.int .i64) o ((ll.map fun l=>(Q1n l:Int)).take k) /\ Ext w wr) (fun _ i _=>ll.length - (intOf i).toNat)
 case atStart=>exact ⟨0,Nat.zero_le _,rfl,Q0s.nil _ _ _ _,Ext.refl _⟩
 case round =>
  obtain ⟨k,hk,rfl,hown,hx⟩:=hrel;have hlen:((ll.map fun l=>(Q1n l:Int)).take k).length = k:=by rw [List.length_take,List.length_map]; omega
  by_cases hlt:k < ll.length
  . obtain ⟨b,off,m,rfl,hbw,hcell,hm⟩:=HC.out k hlt
    have HTK:=Lib.hid (X1n (fun l=>(Q1n l:Int)) ll hlt);have hmm:=HM.out (ll.getD k []) (by rw [Q3w _ hlt]; exact List.getElem_mem hlt)
    obtain ⟨s,hs⟩:∃ s,ll.getD k [] = s:=⟨_,rfl⟩;rw [hs] at hm hmm HTK;obtain ⟨Am,cm,rfl,_,_,_⟩:=hm.opened;have HMS:=Lib.hid (hm.ext hx);have HMM:=Lib.hid hmm;replace hcell:=hx.cell hcell;have HLEN:=Lib.hid hlen;have hll:((ll.map fun l=>(Q1n l:Int)).take k).length <= 4096:=by omega
    clear hs hm hmm hlen;go_wp2_with (first | (go_at_call 87; refine (X1h _ _ s HMS.out HMM.out).mono ?_; rintro e w9 ⟨rfl,rfl⟩) | (at_builtin; refine wpList_append_own _ rfl _ _ 40 rfl (w.heap.size) 3 i0 (.int .i64 0) 1 8 Tryz.underlying40 hi hz0 hz1 hz2 rfl (by decide) _ _ _ rfl (World.ownsRow.alloc hown _) ⟨wr.heap.size,0,none⟩ 1 1 [.int .i64 (Q1n s:Nat)] rfl rfl ?_ ?_ ?_ ?_ ?_ ?_; exact Q5k _ _ _; (focus (simp [Value.oneCell'])); (focus (unfold maxLen; omega)); (focus omega); (focus (have:=hx.size; simp at this ⊢; omega)); intro v' w1 hown' hgrow _))
    have hx':=Q3u hx hown (Nat.le_refl _) hgrow;go_wp2;go_roundw
    case rel=>exact ⟨k + 1,by omega,by go_num,by rw [<- HTK.out]; exact Q0s.snoc hown',hx'⟩
    case measure=>simp [intOf]; omega
  . have HE:Hid ((ll.map fun l=>(Q1n l:Int)).take k = ll.map fun l=>(Q1n l:Int)):=Lib.hid (by rw [List.take_of_length_le (by rw [List.length_map]; omega)])
    have hii:=hown.ints (by omega)
    have HII:=Lib.hid hii;clear hii hown hlen;go_wp2;go_ret;exact ⟨_,rfl,by rw [<- HE.out]; exact HII.out,hx⟩
theorem X6r (w:World) (u:Value) (t:Tree) (l:List Int) (B:Nat) (A A':Option Addr) (ca cb:Nat) (gv:Value) (hl:Q0e w u l) (h1:t.basics.length <= 17592186043904) (h2:t.causes.length <= 17592186043904) (hB:Blk w B 33 #[.slice A t.basics.length ca,.slice A' t.causes.length cb,gv]) :
    Calls Tryz.prog 140 #[u,.pointer (some ⟨B,0,none⟩)] w fun e w'=>e = .returned (.int .i64 (Q1p l t.size)) /\ Ext w w':=by
 obtain ⟨Au,cap,rfl,_,_,_⟩:=hl.opened;have c0:=hB.cell 0;have c1:=hB.cell 1;simp only [Go.Tw.gA,Go.Tw.gB,Go.Tw.gC] at c0 c1;have HL:=Lib.hid hl;have HSE:=Lib.hid (X7c t l);have hw:IntKind.i64.wrap ((t.basics.length:Int) + (t.causes.length:Int)) = (t.basics.length:Int) + (t.causes.length:Int):=Q3v _ (by omega) (by omega)
 clear hl hB;go_enter Tryz.func140,Tryz.ntmps140;go_wp2_with (go_at_call 105; refine (Q5f _ _ l _ HL.out).mono ?_; rintro e w' ⟨rfl,hx⟩; rw [HSE.out]);go_ret;exact ⟨rfl,hx⟩
theorem Y4i (w:World) (v:Value) (ll:List (List Int)) (g:Nat) (c:Value) (f:List Int -> Int) (hv:Q1v w v ll) (hle:ll.length <= 4096) (eg:∀ args w,(callFunc g args).run Tryz.prog w = .ok (.enter g args) w)
    (hf:∀ W u l,Ext w W -> Q0e W u l -> Calls Tryz.prog g #[u,c] W fun e W'=>e = .returned (.int .i64 (f l)) /\ Ext W W') :
    Calls Tryz.prog 139 #[v,.func (.func g) #[] #[c]] w fun e w'=>∃ x,e = .returned x /\ Q0e w' x (ll.map f) /\ Ext w w':=by
 obtain ⟨i0,hi,hz0,hz1,hz2⟩:=info_parts Tryz.Z0o;obtain ⟨A,cap,rfl,hl,hcap,hc⟩:=hv.opened;have HC:=Lib.hid hc;have HF:=Lib.hid hf;clear hv hc hf;go_enter Tryz.func139,Tryz.ntmps139;go_wp2
 go_loopw [5,10] (fun o i wr=>∃ (k:Nat),k <= ll.length /\ i = .int .i64 k /\ Q0s wr w.heap.size 34 (.int .i64) o ((ll.map f).take k) /\ Ext w wr) (fun _ i _=>ll.length - (intOf i).toNat)
 case atStart=>exact ⟨0,Nat.zero_le _,rfl,Q0s.nil _ _ _ _,Ext.refl _⟩
 case round =>
  obtain ⟨k,hk,rfl,hown,hx⟩:=hrel;have hlen:((ll.map f).take k).length = k:=by rw [List.length_take,List.length_map]; omega
  by_cases hlt:k < ll.length
  . obtain ⟨b,off,m,rfl,hbw,hcell,hm⟩:=HC.out k hlt
    have HTK:=Lib.hid (X1n f ll hlt);obtain ⟨s,hs⟩:∃ s,ll.getD k [] = s:=⟨_,rfl⟩;rw [hs] at hm HTK;have HFS:=Lib.hid (HF.out wr m s hx (hm.ext hx));obtain ⟨y,hy⟩:∃ y,f s = y:=⟨_,rfl⟩;rw [hy] at HFS HTK;replace hcell:=hx.cell hcell;have hll:((ll.map f).take k).length <= 4096:=by omega
    have HOWN:=Lib.hid hown;obtain ⟨Am,cm,rfl,_,_,_⟩:=hm.opened;clear hs hm hlen hy hown;go_wp2_with (first | (refine HFS.out.mono ?_; rintro e w9 ⟨rfl,hx9⟩; have hown9:=HOWN.out.below hx9; have hx99:=hx.trans hx9) | (at_builtin; refine wpList_append_own _ rfl _ _ 158 rfl (w.heap.size) 34 i0 (.int .i64 0) 1 8 Tryz.underlying158 hi hz0 hz1 hz2 rfl (by decide) _ _ _ rfl (World.ownsRow.alloc hown9 _) ⟨w9.heap.size,0,none⟩ 1 1 [.int .i64 y] rfl rfl ?_ ?_ ?_ ?_ ?_ ?_; exact Q5k _ _ _; (focus (simp [Value.oneCell'])); (focus (unfold maxLen; omega)); (focus omega); (focus (have:=hx99.size; simp at this ⊢; omega)); intro v' w1 hown' hgrow _))
    have hx':=Q3u hx99 hown9 (Nat.le_refl _) hgrow;go_wp2;go_roundw
    case rel=>exact ⟨k + 1,by omega,by go_num,by rw [<- HTK.out]; exact Q0s.snoc hown',hx'⟩
    case measure=>simp [intOf]; omega
  . have HE:Hid ((ll.map f).take k = ll.map f):=Lib.hid (by rw [List.take_of_length_le (by rw [List.length_map]; omega)])
    have hii:Q0e wr _ ((ll.map f).take k):=hown.ints (by omega)
    have HII:=Lib.hid hii;clear hii hown hlen;go_wp2;go_ret;exact ⟨_,rfl,by rw [<- HE.out]; exact HII.out,hx⟩
end Go.Proofs
namespace Go.Proofs
open Go.RowKit Go.Tw Go.Flow
theorem X0l (w:World) (v u:Value) (t:Tree) (ll:List (List Int)) (ht:IsTree w v t) (hl:Q1v w u ll) :
    Calls Tryz.prog 95 #[v,u] w fun e w'=>e = .returned (.int .i64 (Q3q t.size ll)) /\ Ext w w':=by
 obtain ⟨Au,capu,rfl,hlen,_,_⟩:=hl.opened;have HL:=Lib.hid hl;clear hl;obtain ⟨a,b,c,rfl,h3⟩:=ht;obtain ⟨A,capa,rfl,hl1,hcap1,_⟩:=h3.basics.opened;obtain ⟨B,capb,rfl,hl2,hcap2,_⟩:=h3.causes.opened;obtain ⟨G,capg,rfl,hl3,hcap3,_⟩:=h3.gates.opened;have HT0:=Lib.hid h3;clear h3
 by_cases hb:1024 < ll.length
 . have HR:Hid (Q3q t.size ll = 5):=Lib.hid (by unfold Q3q; rw [if_pos hb])
   have hb':(1024:Int) < (ll.length:Int):=by omega
   clear hb;go_enter Tryz.func95,Tryz.ntmps95;go_wp2;go_ret;exact ⟨Q0y HR.out.symm,Ext.box _ _⟩
 . have HR:Hid (Q3q t.size ll = Q0g (ll.map fun x=>Q1p x t.size)):=Lib.hid (by unfold Q3q; rw [if_neg hb])
   have hb':¬ (1024:Int) < (ll.length:Int):=by omega
   go_enter Tryz.func95,Tryz.ntmps95;go_wp2_with fail;change Calls _ _ _ (w.alloc (.cells #[.slice A t.basics.length capa,.slice B t.causes.length capb,.slice G t.gates.length capg] 33)) _;obtain ⟨W,hWW,k0,HXW,eW⟩:=Q3a w 33 #[.slice A t.basics.length capa,.slice B t.causes.length capb,.slice G t.gates.length capg];rw [hWW];clear hWW;have K0:=Lib.hid k0;clear k0;refine (Y4i W _ ll 140 (.pointer (some ⟨w.heap.size,0,none⟩)) (fun x=>Q1p x t.size) (HL.out.ext HXW.out) (by omega) (enters_of Tryz.func140 (by kernel_rfl) rfl)
    (fun W' u l hx hu=>X6r W' u t l w.heap.size _ _ _ _ _ hu hl1 hl2 (K0.out.ext hx))).mono ?_
   rintro e w1 ⟨x,rfl,hii,hx1⟩;have HII:=Lib.hid hii;have HXX:=Lib.hid (HXW.out.trans hx1);clear hii hx1;go_wp2_with (go_at_call 48; refine (first_any _ _ _ HII.out).mono ?_; rintro e w' ⟨rfl,rfl⟩);go_ret;exact ⟨Q0y HR.out.symm,HXX.out⟩
theorem Z3c (w:World) (x:Int) (B:Nat) (hf:Nat) (rv:Value) (q:Bool) (eg:∀ args w,(callFunc hf args).run Tryz.prog w = .ok (.enter hf args) w) (hB:w.cell? ⟨B,0,none⟩ = some (.func (.func hf) #[rv] #[]))
    (hq:Calls Tryz.prog hf #[rv,.int .i64 x] w fun e w'=>e = .returned (.bool q) /\ Ext w w') :
    Calls Tryz.prog 98 #[.int .i64 x,.pointer (some ⟨B,0,none⟩)] w fun e w'=>e = .returned (.bool (!q)) /\ Ext w w':=by
 have HQ:=Lib.hid hq;clear hq;go_enter Tryz.func98,Tryz.ntmps98;go_wp2_with (refine HQ.out.mono ?_; rintro e w9 ⟨rfl,hx9⟩);go_ret;exact ⟨rfl,hx9⟩
theorem Y5o (w:World) (v:Value) (l:List Int) (hf:Nat) (rv:Value) (q:Int -> Bool) (hv:Q0e w v l) (eg:∀ args w,(callFunc hf args).run Tryz.prog w = .ok (.enter hf args) w)
    (hq:∀ W x,Ext w W -> x ∈ l -> Calls Tryz.prog hf #[rv,.int .i64 x] W fun e W'=>e = .returned (.bool (q x)) /\ Ext W W') :
    Calls Tryz.prog 97 #[v,.func (.func hf) #[rv] #[]] w fun e w'=>e = .returned (.bool (l.any fun x=>!q x)) /\ Ext w w':=by
 obtain ⟨A,cap,rfl,_,_,_⟩:=hv.opened;have k0:=Blk.made w 133 #[.func (.func hf) #[rv] #[]];have hx0:=Ext.box w (.cells #[.func (.func hf) #[rv] #[]] 133);have HC:Hid (Calls Tryz.prog 76 #[.slice A l.length cap,.func (.func 98) #[] #[.pointer (some ⟨w.heap.size,0,none⟩)]] (w.alloc (.cells #[.func (.func hf) #[rv] #[]] 133)) fun e w'=>e = .returned (.bool (l.any fun x=>!q x)) /\ Ext (w.alloc (.cells #[.func (.func hf) #[rv] #[]] 133)) w'):=by
  exact (Q7p _ _ l 98 _ (fun x=>!q x) (hv.ext hx0) (enters_of Tryz.func98 (by kernel_rfl) rfl) (fun W x hx hm=>Z3c W x w.heap.size hf rv (q x) eg ((k0.ext hx).cell 0) (hq W x (hx0.trans hx) hm)))
 have HX0:=Lib.hid hx0;obtain ⟨r,hr⟩:∃ r,(l.any fun x=>!q x) = r:=⟨_,rfl⟩
 rw [hr] at HC ⊢;clear hv hq hx0 k0 hr;go_enter Tryz.func97,Tryz.ntmps97;go_wp2_with (go_at_call 76; refine HC.out.mono ?_; rintro e w9 ⟨rfl,hx9⟩);go_ret;exact ⟨rfl,HX0.out.trans hx9⟩
def Z3w (s:Nat) (l:List Int):Bool:=l.any fun x=>Q2m x.toNat s == 0
theorem Z2w (w:World) (x:Int) (B s:Nat) (hx0:0 <= x) (hx1:x < 2 ^ 62) (hs:s < 2 ^ 62) (hB:w.cell? ⟨B,0,none⟩ = some (.int .i64 s)) :
    Calls Tryz.prog 100 #[.int .i64 x,.pointer (some ⟨B,0,none⟩)] w fun e w'=>e = .returned (.bool (Q2m x.toNat s == 0)) /\ Ext w w':=by
 obtain ⟨a,rfl⟩:∃ a:Nat,x = (a:Int):=⟨x.toNat,by omega⟩
 rw [Int.toNat_natCast];have han:=Q9s (a:=a) (b:=s) (by omega) hs
 have hz:((Q2m a s:Nat) == 0) = (((Q2m a s:Nat):Int) == 0):=by rw [Bool.eq_iff_iff]; simp
 rw [hz];obtain ⟨y,hy⟩:∃ y,Q2m a s = y:=⟨_,rfl⟩;rw [hy] at han ⊢;obtain ⟨r,hr⟩:∃ r,((y:Int) == 0) = r:=⟨_,rfl⟩;rw [hr];clear hy hz hx0 hx1 hs;go_enter Tryz.func100,Tryz.ntmps100;go_wp2;go_ret;exact ⟨rfl,Ext.refl _⟩
theorem Y1p (w:World) (v:Value) (l:List Int) (s:Nat) (hv:Q0e w v l) (hs:s < 2 ^ 62) (hl:∀ x ∈ l,0 <= x /\ x < 2 ^ 62) :
    Calls Tryz.prog 99 #[.int .i64 s,v] w fun e w'=>e = .returned (.bool (Z3w s l)) /\ Ext w w':=by
 obtain ⟨A,cap,rfl,_,_,_⟩:=hv.opened;have k0:=Blk.made w 3 #[.int .i64 s];have hx0:=Ext.box w (.cells #[.int .i64 s] 3);have HC:Hid (Calls Tryz.prog 76 #[.slice A l.length cap,.func (.func 100) #[] #[.pointer (some ⟨w.heap.size,0,none⟩)]] (w.alloc (.cells #[.int .i64 s] 3)) fun e w'=>e = .returned (.bool (Z3w s l)) /\ Ext (w.alloc (.cells #[.int .i64 s] 3)) w'):=by
  exact (Q7p _ _ l 100 _ (fun x=>Q2m x.toNat s == 0) (hv.ext hx0) (enters_of Tryz.func100 (by kernel_rfl) rfl) (fun W x hx hm=>Z2w W x w.heap.size s (hl x hm).1 (hl x hm).2 hs ((k0.ext hx).cell 0)))
 have HX0:=Lib.hid hx0;obtain ⟨r,hr⟩:∃ r,Z3w s l = r:=⟨_,rfl⟩;rw [hr] at HC ⊢;clear hv hx0 k0 hr hl hs;go_enter Tryz.func99,Tryz.ntmps99;go_wp2_with (go_at_call 76; refine HC.out.mono ?_; rintro e w9 ⟨rfl,hx9⟩);go_ret;exact ⟨rfl,HX0.out.trans hx9⟩
end Go.Proofs
