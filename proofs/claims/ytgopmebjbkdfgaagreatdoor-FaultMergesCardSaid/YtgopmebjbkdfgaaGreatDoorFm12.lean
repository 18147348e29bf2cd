/- Contract: quotients in lowest terms. Whole loads and stores of blocks inside a fence; the worlds of a round. Contract: the sum of the products over the cut sets that have some events. -/
import Derived.Test.YtgopmebjbkdfgaaGreatDoorFm11
set_option maxRecDepth 1000000
set_option maxHeartbeats 64000000
set_option linter.unusedVariables false
set_option linter.unusedSimpArgs false
set_option linter.constructorNameAsVariable false
namespace Go.Proofs
open Go.RowKit Go.Tw Go.Flow
theorem Q8v (w:World) (a b:Int) (ha:0 <= a) (ha2:a <= 4611686018427387904) (hb:1 <= b) (hb2:b <= 4611686018427387904) :
    Calls Tryz.prog 91 #[.int .i64 a,.int .i64 b] w fun e w'=>e = .returned (.agg #[.int .i64 (lowest a b).num,.int .i64 (lowest a b).den]) /\ Ext w w':=by
 have hw:=Ext.box w (.cells #[.int .i64 0,.int .i64 0] 52);have c0:=Q0y w #[.int .i64 0,.int .i64 0] 52 0;have c1:=Q0y w #[.int .i64 0,.int .i64 0] 52 1;have f0:=X0r w #[.int .i64 0,.int .i64 0] 52 0;have f1:=X0r w #[.int .i64 0,.int .i64 0] 52 1;have hsW:w.heap.size < (w.alloc (.cells #[.int .i64 0,.int .i64 0] 52)).heap.size:=by show _ < (w.heap.push _).size; rw [Array.size_push]; omega
 go_enter Tryz.func91,Tryz.ntmps91;go_wp2;obtain ⟨W,hW⟩:∃ W,w.alloc (.cells #[.int .i64 0,.int .i64 0] 52) = W:=⟨_,rfl⟩;rw [hW] at c0 c1 f0 f1 hsW hw ⊢;simp only [Go.Tw.gA,Go.Tw.gB,Go.Tw.gC] at c0 c1;clear hW
 go_loopw [5,6] (fun x y wr=>∃ (p q:Int),x = .int .i64 p /\ y = .int .i64 q /\ 0 <= p /\ 0 <= q /\ p <= 4611686018427387904 /\ q <= 4611686018427387904 /\ (0 < p ∨ 0 < q) /\ Int.gcd p q = Int.gcd a b /\ Ext W wr) (fun _ y _=>(intOf y).toNat)
 case atStart=>exact ⟨a,b,by first | rfl | rw [show max a (-a) = a by omega],by first | rfl | rw [show max b (-b) = b by omega],ha,by omega,ha2,hb2,by omega,rfl,Ext.refl _⟩
 case round =>
  obtain ⟨p,q,rfl,rfl,hp,hq,hp2,hq2,hpq,hg,hx0⟩:=hrel
  by_cases hz:q = 0
  . subst hz
    have hpg:p = (Int.gcd a b:Int):=by rw [<- hg,Int.gcd_zero]; omega
    have hdz:¬ p = 0:=by omega
    replace c0:=hx0.cell c0;replace c1:=hx0.cell c1;have HPG:=Lib.hid hpg;clear hg hpg;have hq1:a / p <= a:=Int.ediv_le_self _ ha;have hq2:b / p <= b:=Int.ediv_le_self _ (by omega)
    have hq3:0 <= a / p:=Int.ediv_nonneg ha hp;have hq4:0 <= b / p:=Int.ediv_nonneg (by omega) hp
    have hq5:a.tdiv p = a / p:=Int.tdiv_eq_ediv_of_nonneg ha;have hq6:b.tdiv p = b / p:=Int.tdiv_eq_ediv_of_nonneg (by omega)
    have hq7:IntKind.i64.wrap (a / p) = a / p:=wrap_in (by omega) (by omega)
    have hq8:IntKind.i64.wrap (b / p) = b / p:=wrap_in (by omega) (by omega)
    have hwr:=Nat.lt_of_lt_of_le hsW hx0.size;replace f0:=(hx0.frozen hsW).trans f0;replace f1:=(hx0.frozen hsW).trans f1;go_wp2;refine Flow.region [.p,.p,.p,.p,.p,.p,.p,.last] [0,1,2,3,4,5,6,7] [[],[],[0,1],[],[],[3,4],[0,1,2,3,4,5],[0,1,2,3,4,5,6]] [7]
     [.c 0 (.int .i64 a),.c 1 (.int .i64 p),.c 2 (.int .i64 (a / p)),.c 3 (.int .i64 b),.c 4 (.int .i64 p),.c 5 (.int .i64 (b / p)),.c 6 (.agg #[.int .i64 (a / p),.int .i64 (b / p)]),.none]
     [fun v w1 w'=>w'.cell? ⟨w.heap.size,0,none⟩ = some (.int .i64 (a / p)) /\ w'.cell? ⟨w.heap.size,1,none⟩ = some (.int .i64 (b / p)) /\ Below w.heap.size w1 w'] (by kernel_rfl) rfl (by kernel_rfl) ⟨?g0,?g1,?g2,?g3,?g4,?g5,?g6,?g7,trivial⟩ ?post
    case g0 | g1 | g3 | g4=>
     intro v w1 hx;refine ⟨_,fun w=>?_,rfl⟩;go_simp
    case g2 | g5 | g6=>
     intro v w1 hx;(repeat intro (zq:v _ = _));refine ⟨_,fun w=>?_,rfl⟩;go_simp
    case g7=>
     intro v w1 hx;(repeat intro (zq:v _ = _));intro wl hT;obtain rfl:wl = w1:=hT;intro bb hbb;subst hbb;have c0:=hx.cell c0;have c1:=hx.cell c1;intro K hK;have g0:=(hx.frozen (p:=⟨w.heap.size,0,none⟩) hwr).trans f0;have g1:=(hx.frozen (p:=⟨w.heap.size,1,none⟩) hwr).trans f1;go_simp;refine hK _ _ ⟨?_,?_,((Below.refl w.heap.size wl).setCell (p:=⟨w.heap.size,0,none⟩) (Nat.le_refl _) _).setCell (p:=⟨w.heap.size,1,none⟩) (Nat.le_refl _) _⟩
     . refine Eq.trans (World.cell?_setCell_other _ _ _ _ ?_) (World.cell?_setCell_same _ _ _ c0); intro h; cases h
     . refine World.cell?_setCell_same _ _ _ (Eq.trans (World.cell?_setCell_other _ _ _ _ ?_) c1); intro h; cases h
    case post =>
     intro v w1 hx;(iterate 7 intro (zq:v _ = _));intro w2 hE;replace hE:(fun v w1 w'=>w'.cell? ⟨w.heap.size,0,none⟩ = some (.int .i64 (a / p)) /\ w'.cell? ⟨w.heap.size,1,none⟩ = some (.int .i64 (b / p)) /\ Below w.heap.size w1 w') v w1 w2:=hE;simp only [Flow.acts,Act.put];go_simp;obtain ⟨e0,e1,e2⟩:=hE;go_wp2;refine bodyPost_ret (v:=.agg #[.int .i64 (a / p),.int .i64 (b / p)]) (by simp [results,Tryz.results91,go_sem,e0,e1]) rfl ?_
     exact ⟨by rw [HPG.out]; rfl,Below.trans ((hw.trans hx0.drew).trans hx) e2⟩
  . have hq0:0 < q:=by omega
    have hst:=Z4o p q hp hq0;have htm:p % q < q:=Int.emod_lt_of_pos p hq0;have htn:=Int.emod_nonneg p (show q ≠ 0 by omega)
    rw [Int.tmod_eq_emod_of_nonneg hp] at hst;go_wp2
    go_quiet (fail)
    all_goals go_wp2
    go_roundw
    case rel=>exact ⟨q,p % q,rfl,by go_num,by omega,htn,hq2,by omega,Or.inl hq0,by rw [hst,hg],hx0.drewN _⟩
    case measure=>exact (Int.toNat_lt_toNat hq0).2 htm
end Go.Proofs
namespace Go.Proofs
open Go.RowKit Go.Tw Go.Flow
theorem Q4v {F:Fence} {n0:Nat} {P:Program} {w:World} {ops:Array Oper} {rest:List Oper} {o:Oper} {a:Act} {Q:Exit -> Act -> World -> Prop} (hw:Region.wanted o (yielded ops a.tmps) = true) (p:Operand) (T:TypeId) (hop:o.op = .load T p)
    (hA:∀ w,(isAgg T).run P w = .ok true w) {n:Nat} (hS:∀ w,(sizeOf T).run P w = .ok n w) {g:Nat} (hp:a.eval p = .pointer (some ⟨g,0,none⟩)) {BT:TypeId} {cs:Array Value} (hb:Blk w g BT cs) (hn:cs.size = n)
    (hK:wpListIn F n0 P ops Q rest (a.put o.dst (.agg cs)) w):wpListIn F n0 P ops Q (o :: rest) a w:=by
 subst hn;refine BigFrame.wpListIn_want hw fun K' hK'=>?_;unfold Oper.wpIn;refine ⟨?_,?_⟩
 . simp [Oper.about,hop]
 . rw [Oper.semAt_plain F _ _ (by rw [hop]; intro c hc'; cases hc')]
   have hr:(execOp a.eval o).run P w = .ok (.value (.agg cs)) w:=by
    unfold execOp;simp only [hop,hp,Instr.loadAt,Instr.sureAddr,Sem.run_bind,Sem.run_pure,Result.andThen_ok,Q3u hb hA hS]
   rw [hr];exact hK' _ _ hK
theorem Q0h {P:Program} {K:Value -> World -> Prop} {o:Oper} {a:Act} {w:World} (p:Operand) (T:TypeId) (ho:o.op = .load T p) (hA:∀ w,(isAgg T).run P w = .ok true w) {n:Nat} (hS:∀ w,(sizeOf T).run P w = .ok n w)
    {g:Nat} (hp:a.eval p = .pointer (some ⟨g,0,none⟩)) {BT:TypeId} {cs:Array Value} (hb:Blk w g BT cs) (hn:cs.size = n) (h:K (.agg cs) w):gives P K ((execOp a.eval o).run P w):=by
 subst hn;unfold execOp;simp only [ho,hp,Instr.loadAt,Instr.sureAddr,Sem.run_bind,Sem.run_pure,Result.andThen_ok,Q3u hb hA hS];exact h
theorem Blk.own {β:Type} (g:Nat) (T:TypeId) (cs:β -> Array Value):Own (fun s W=>Blk W g T (cs s)):=fun s _ _ _ hs hg hr=>(grownBy_keeps_cells (o:=.cells (cs s) T) hg hr hs rfl).trans hs
theorem Q4l {W W':World} (h:Ext W W'):KeepsOthers W W':=⟨h.size,fun k o hk _=>by rw [h.block k (Array.getElem?_eq_some_iff.1 hk).1]; exact hk⟩
end Go.Proofs
namespace Go.Proofs
open Go.RowKit Go.Tw Go.Flow
attribute [local go_sem] Oper.semAt_some
def Y7h (t:Tree) (c:List Int) (wi s:Nat):Int:=if (s &&& wi) = wi /\ t.fails (evN s) = true then partOf c s else 0
def sumW {N:Nat} (t:Tree) (c:List Int) (wi:Nat):List (Fin N) -> Int
 | []=>0
 | x :: l=>Y7h t c wi x.1 + sumW t c wi l
theorem sumW_snoc {N:Nat} (t:Tree) (c:List Int) (wi:Nat) (x:Fin N):∀ l,sumW t c wi (l ++ [x]) = sumW t c wi l + Y7h t c wi x.1
 | []=>by simp [sumW]
 | y :: l=>by rw [List.cons_append,sumW,sumW,sumW_snoc t c wi x l,Int.add_assoc]
theorem Z4n {c:List Int} (h:Small c) (t:Tree) (wi s:Nat):0 <= Y7h t c wi s /\ Y7h t c wi s <= 281474976710656:=by
 unfold Y7h
 split
 . exact X2k h s (Nat.le_refl _)
 . omega
theorem Y4z {N:Nat} {c:List Int} (h:Small c) (t:Tree) (wi:Nat):∀ l:List (Fin N),0 <= sumW t c wi l /\ sumW t c wi l <= l.length * 281474976710656
 | []=>by simp [sumW]
 | x :: l=>by
   have h1:=Z4n h t wi x.1;have h2:=Y4z h t wi l;rw [sumW,List.length_cons];have h3:((l.length + 1:Nat):Int) = (l.length:Int) + 1:=by omega
   rw [h3,Int.add_mul];omega
def Q1m (t:Tree) (c:List Int) (wi:Nat):Int:=sumW t c wi (List.finRange (2 ^ t.size))
theorem Q5m (w:World) (fv gv:Value) (t:Tree) (c0 c:List Int) (wi:Nat) (hv:Valid t) (hn:Y3e w fv gv t) (hc:Small c) (hlen:c.length = t.size) (hw:wi < 2 ^ 62) :
    Calls Tryz.prog 92 #[noV t c0 fv gv,chV c,.int .i64 wi] w fun e w'=>e = .returned (.int .i64 (Q1m t c wi)) /\ Ext w w':=by
 obtain ⟨A1,cap1,rfl,_,_,_⟩:=hn.fails.opened;obtain ⟨A2,cap2,rfl,_,_,_⟩:=hn.gates.opened;rw [Q2p] at hn ⊢;have HN:=Lib.hid hn;have HV:=Lib.hid hv;have HC:=Lib.hid hc;have HLEN:=Lib.hid hlen;have hsz:=hv.size;clear hn hv hc hlen;rw [Y6k];unfold noV;refine (callsIn_wide (n:=9)).1 ?_;refine callsIn_of_wp_marks Tryz.func92 rfl trivial ?_ rfl;simp only [Tryz.ntmps92,List.size_toArray,List.length_cons,List.length_nil,Nat.reduceAdd,Nat.reduceSub,Array.replicate_succ,Array.replicate_zero,List.push_toArray,List.append_toArray,List.nil_append,List.cons_append]
 gi_wp2_with (refine ⟨trivial,?_⟩; gi_at_call 94; refine (callsIn_wide.2 (X2w _ t c0 A1 t.size cap1)).mono ?_; rintro e w' ⟨rfl,hce,hse,hxe⟩)
 have es0:(w.alloc (.cells (outA t.size (.slice A1 t.size cap1) c0 t.basics.length (.slice A2 t.gates.length cap2)) 129)).heap.size = w.heap.size + 1:=by simp
 have k0:=Blk.made w 129 (outA t.size (.slice A1 t.size cap1) c0 t.basics.length (.slice A2 t.gates.length cap2));have x0:=Ext.box w (.cells (outA t.size (.slice A1 t.size cap1) c0 t.basics.length (.slice A2 t.gates.length cap2)) 129);replace hxe:Ext ((((w.alloc (.cells (outA t.size (.slice A1 t.size cap1) c0 t.basics.length (.slice A2 t.gates.length cap2)) 129)).alloc (.cells (chA c) 124)).alloc (.cells #[.int .i64 wi] 3)).alloc (.cells #[.int .i64 0] 3)) w':=hxe;replace hce:w'.cell? ⟨((((w.alloc (.cells (outA t.size (.slice A1 t.size cap1) c0 t.basics.length (.slice A2 t.gates.length cap2)) 129)).alloc (.cells (chA c) 124)).alloc (.cells #[.int .i64 wi] 3)).alloc (.cells #[.int .i64 0] 3)).heap.size,0,none⟩ = some (.int .i64 t.size):=hce;replace hse:w'.heap.size = ((((w.alloc (.cells (outA t.size (.slice A1 t.size cap1) c0 t.basics.length (.slice A2 t.gates.length cap2)) 129)).alloc (.cells (chA c) 124)).alloc (.cells #[.int .i64 wi] 3)).alloc (.cells #[.int .i64 0] 3)).heap.size + 1:=hse;obtain ⟨X0,hX0⟩:∃ X,w.alloc (.cells (outA t.size (.slice A1 t.size cap1) c0 t.basics.length (.slice A2 t.gates.length cap2)) 129) = X:=⟨_,rfl⟩;rw [hX0] at hxe hce hse k0 x0 es0;have k1:=Blk.made X0 124 (chA c);have x1:=Ext.box X0 (.cells (chA c) 124);have es1:(X0.alloc (.cells (chA c) 124)).heap.size = X0.heap.size + 1:=by simp
 obtain ⟨X1,hX1⟩:∃ X,X0.alloc (.cells (chA c) 124) = X:=⟨_,rfl⟩;rw [hX1] at hxe hce hse k1 x1 es1;have k2:=Blk.made X1 3 #[.int .i64 wi];have x2:=Ext.box X1 (.cells #[.int .i64 wi] 3);have es2:(X1.alloc (.cells #[.int .i64 wi] 3)).heap.size = X1.heap.size + 1:=by simp
 obtain ⟨X2,hX2⟩:∃ X,X1.alloc (.cells #[.int .i64 wi] 3) = X:=⟨_,rfl⟩;rw [hX2] at hxe hce hse k2 x2 es2;have k3:=Blk.made X2 3 #[.int .i64 0];have x3:=Ext.box X2 (.cells #[.int .i64 0] 3);have es3:(X2.alloc (.cells #[.int .i64 0] 3)).heap.size = X2.heap.size + 1:=by simp
 obtain ⟨X3,hX3⟩:∃ X,X2.alloc (.cells #[.int .i64 0] 3) = X:=⟨_,rfl⟩;rw [hX3] at hxe hce hse k3 x3 es3;clear hX0 hX1 hX2 hX3;replace k0:=((k0.ext x1).ext x2).ext (x3.trans hxe);replace k1:=(k1.ext x2).ext (x3.trans hxe);replace k2:=k2.ext (x3.trans hxe);replace k3:=k3.ext hxe;have XW:Ext w w':=(((x0.trans x1).trans x2).trans x3).trans hxe;have e1:X0.heap.size = w.heap.size + 1:=es0;have e2:X1.heap.size = w.heap.size + 1 + 1:=by omega
 have e3:X2.heap.size = w.heap.size + 1 + 1 + 1:=by omega
 have e4:X3.heap.size = w.heap.size + 1 + 1 + 1 + 1:=by omega
 have e5:w'.heap.size = w.heap.size + 1 + 1 + 1 + 1 + 1:=by omega
 rw [e1] at k1;rw [e2] at k2;rw [e3] at k3;rw [e4] at hce;clear es0 es1 es2 es3 e1 e2 e3 e4 hse x0 x1 x2 x3 hxe;have HXW:=Lib.hid XW;clear XW;refine wpIn_rangeFunc_ownF (n:=9) rfl (by omega) (gf:=138) (lb:=#[.pointer (some ⟨w.heap.size + 1 + 1 + 1 + 1,0,none⟩)]) rfl trivial (enters_of Tryz.func138 (by kernel_rfl) rfl)
  (X0t _ (w.heap.size + 1 + 1 + 1 + 1) (2 ^ t.size) w' t rfl hsz hce) (fun _ _=>trivial) (fun _ _ _ _ _ _ _ _=>trivial) (Below.refl _ _) (fun _=>rfl)
  (fun pre W=>Blk W (w.heap.size + 1 + 1 + 1) 3 #[.int .i64 (sumW t c wi pre)] /\ Below (w.heap.size + 1 + 1 + 1) w' W)
  (fun _ _ _=>False)
  (OwnFrom.and (Own.from (Blk.own _ _ _) _) (ownFrom_below (by omega) (by omega)))
  (fun _ _ _ _ _ hs _ _=>hs)
  ⟨k3,Below.refl _ _⟩
  (fun x=>{ tmps:=#[noV t c0 (.slice A1 t.size cap1) (.slice A2 t.gates.length cap2),.agg (chA c),.int .i64 wi,.pointer (some ⟨w.heap.size,0,none⟩),.pointer (some ⟨w.heap.size + 1,0,none⟩),.pointer (some ⟨w.heap.size + 1 + 1,0,none⟩),.int .i64 0,.pointer (some ⟨w.heap.size + 1 + 1 + 1,0,none⟩),.int .i64 x.1,.pointer (some ⟨w.heap.size,0,none⟩),evV t c0 (.slice A1 t.size cap1),.func (.func 138) #[] #[.pointer (some ⟨w.heap.size + 1 + 1 + 1 + 1,0,none⟩)],.int .i64 x.1,undef,undef,undef,undef,undef,undef,undef,undef,undef,undef,undef,undef,undef,undef,undef,undef,undef],defers:=[] }) ?assign ?body ?done ?stop
 case assign =>
  intro l x W K hK
  gi_wp2
  exact hK
 case stop =>
  rintro D cc pre W _ _ h _;exact h.elim
 case done =>
  rintro D ys W hD rfl ⟨hb,hB⟩ hK;have hcell:=hb.cell 0
  gi_wp2
  refine ⟨by simp,.inl ⟨_,_,rfl,run_takeDeferred hK,?_⟩⟩
  exact ⟨_,results_tmp rfl _ _ _,rfl,Below.trans (Below.trans HXW.out (hB.mono (by omega))) (belowK_b (w:=w) (Nat.le_refl _) W D _ _ (by omega) hK rfl rfl)⟩
 case body =>
  rintro l pre x W ⟨hb,hB⟩ hpl;obtain ⟨x,hxN⟩:=x;dsimp only;have h12:(2:Nat) ^ t.size <= 2 ^ 12:=Nat.pow_le_pow_right (by omega) hsz
  have b0:=k0.below hB (by omega)
  have b1:=k1.below hB (by omega)
  have b2:=k2.below hB (by omega)
  have c2:W.cell? ⟨w.heap.size + 1 + 1,0,none⟩ = some (.int .i64 wi):=b2.cell 0;have c3:W.cell? ⟨w.heap.size + 1 + 1 + 1,0,none⟩ = some (.int .i64 (sumW t c wi pre)):=hb.cell 0;have f3:W.frozen? ⟨w.heap.size + 1 + 1 + 1,0,none⟩ = false:=hb.frozen 0;have hnW:Y3e W (.slice A1 t.size cap1) (.slice A2 t.gates.length cap2) t:=HN.out.ext (Below.trans HXW.out (hB.mono (by omega)))
  have hs1:=Y4z HC.out t wi pre;have hs2:=X2k HC.out x (Nat.le_refl c.length);have han:=Z4u (a:=x) (b:=wi) (by omega) hw
  have hsn:=sumW_snoc t c wi ⟨x,hxN⟩ pre;have HSN:Hid (sumW t c wi (pre ++ [⟨x,hxN⟩]) = sumW t c wi pre + (if (x &&& wi) = wi /\ t.fails (evN x) = true then partOf c x else 0)):=Lib.hid (by rw [hsn,Y7h])
  clear hsn;obtain ⟨m,hm⟩:∃ m,x &&& wi = m:=⟨_,rfl⟩;obtain ⟨S,hS⟩:∃ S,sumW t c wi pre = S:=⟨_,rfl⟩;obtain ⟨p,hp⟩:∃ p,partOf c x = p:=⟨_,rfl⟩;have hp':Q7y c x c.length = p:=hp;rw [hp'] at hs2;rw [hS] at hs1 c3 hb;rw [hm] at han HSN;rw [hS,hp] at HSN;have hw7:IntKind.i64.wrap (S + p) = S + p:=wrap_in (by omega) (by omega)
  have HC':=Lib.hid hb;have HPA:Hid (∀ w',Calls Tryz.prog 137 #[noV t c0 (.slice A1 t.size cap1) (.slice A2 t.gates.length cap2),.int .i64 x,chV c] w' fun e w''=>e = .returned (.int .i64 p) /\ Ext w' w''):=by
   exact (by intro w'; rw [<- hp]; exact Z4k w' t c c0 _ _ _ _ _ _ x HC.out HLEN.out (by omega):∀ w',Calls Tryz.prog 137 #[noV t c0 (.slice A1 t.size cap1) (.slice A2 t.gates.length cap2),.int .i64 x,chV c] w' fun e w''=>e = .returned (.int .i64 p) /\ Ext w' w'')
  have HB:=Lib.hid hB;have HNW:=Lib.hid hnW;have HB0:=Lib.hid b0;have HB1:=Lib.hid b1;clear hS hp hp' hs1 hs2 hm hnW hb hB b0 b1 b2 h12;have hlW:w.heap.size + 1 + 1 + 1 < W.heap.size:=World.block_lt_of_cell? W _ c3
  by_cases hmw:m = wi
  . subst hmw
    cases hfa:t.fails (evN x) with
    | false =>
      rw [hfa] at HSN
      gi_wp2_with (first | (refine (show Fence.wide.fn _ /\ _ from ⟨trivial,?_⟩)) | (refine Q4v (by go_simp) _ _ rfl Tryz.Q1x Tryz.Q0t rfl HB0.out rfl ?_) | (gi_at_call 73; refine (CallsIn.inRound l (callsIn_wide.2 (Q8q _ _ _ t c0 x HV.out hxN HNW.out))).mono ?_; rw [hfa]; rintro e w9 ⟨rfl,hx9⟩))
      exact ⟨Q4l hx9,trivial,by rw [HSN.out,if_neg (by simp),Int.add_zero]; exact HC'.out.ext hx9,HB.out.trans (hx9.mono (by omega))⟩
    | true =>
      rw [hfa] at HSN
      gi_wp2_with (first | (refine (show Fence.wide.fn _ /\ _ from ⟨trivial,?_⟩)) | (refine Q4v (by go_simp) _ _ rfl Tryz.Q1x Tryz.Q0t rfl HB0.out rfl ?_) | (gi_at_call 73; refine (CallsIn.inRound l (callsIn_wide.2 (Q8q _ _ _ t c0 x HV.out hxN HNW.out))).mono ?_; rw [hfa]; rintro e w9 ⟨rfl,hx9⟩))
      replace c3:=hx9.cell c3;have f9:=(hx9.frozen (p:=⟨w.heap.size + 1 + 1 + 1,0,none⟩) hlW).trans f3;have h9:=Nat.lt_of_lt_of_le hlW hx9.size;have hd9:=(Ext.refl w9).drew;clear c2 f3;refine Flow.Y3i [.w,.w,.p,.w,.w,.p,.last] [0,1,2,3,4,5,6] [[],[],[],[],[1,2,3],[0,1,2,3,4],[0,1,2,3,4,5]] [6]
       [.c 0 (.int .i64 S),.c 1 (noV t c0 (.slice A1 t.size cap1) (.slice A2 t.gates.length cap2)),.c 2 (.int .i64 x),.c 3 (chV c),.c 4 (.int .i64 p),.c 5 (.int .i64 (S + p)),.none]
       [fun v w1 w'=>Blk w' (w.heap.size + 1 + 1 + 1) 3 #[.int .i64 (S + p)] /\ Below (w.heap.size + 1 + 1 + 1) w1 w' /\ KeepsOthers w1 w'] (by kernel_rfl) (by kernel_rfl) rfl (by kernel_rfl) ⟨?g0,?g1,?g2,?g3,?g4,?g5,?g6,trivial⟩ ?post
      case g0=>
       intro v w1 hx;have c3:=hx.cell c3;intro K hK;go_simp;exact hK _ _ (Ext.refl _) rfl
      case g1=>
       intro v w1 hx;have c3:=hx.cell c3;intro K hK;exact Q0h _ _ rfl Tryz.Q1x Tryz.Q0t (by go_simp) ((HB0.out.ext hx9).ext (hd9.trans hx)) rfl (hK _ _ (Ext.refl _) rfl)
      case g2=>
       intro v w1 hx;refine ⟨_,fun w=>?_,rfl⟩;go_simp
      case g3=>
       intro v w1 hx;have c3:=hx.cell c3;intro K hK;exact Q0h _ _ rfl Tryz.Q7u Tryz.Q4i (by go_simp) ((HB1.out.ext hx9).ext (hd9.trans hx)) rfl (hK _ _ (Ext.refl _) rfl)
      case g4=>
       intro v w1 hx;(repeat intro (zq:v _ = _));have c3:=hx.cell c3;intro K hK;go_simp;refine Q0c (HPA.out w1) ?_;rintro e w2 ⟨rfl,hx2⟩;exact ⟨_,rfl,hK _ _ hx2 rfl⟩
      case g5=>
       intro v w1 hx;(repeat intro (zq:v _ = _));refine ⟨_,fun w=>?_,rfl⟩;go_simp
      case g6=>
       intro v w1 hx;(repeat intro (zq:v _ = _));intro wl hT;obtain rfl:wl = w1:=hT;intro bb hbb;subst hbb;have c3:=hx.cell c3;intro K hK;have g0:=(hx.frozen (p:=⟨w.heap.size + 1 + 1 + 1,0,none⟩) h9).trans f9;have gb:=(HC'.out.ext hx9).ext (hd9.trans hx);go_simp;exact hK _ _ ⟨gb.set 0 _,(Below.refl _ wl).setCell (p:=⟨w.heap.size + 1 + 1 + 1,0,none⟩) (Nat.le_refl _) _,KeepsOthers.setCell _ _ _⟩
      case post =>
       intro v w1 hx;(iterate 6 intro (zq:v _ = _));intro w2 hE;replace hE:(fun v w1 w'=>Blk w' (w.heap.size + 1 + 1 + 1) 3 #[.int .i64 (S + p)] /\ Below (w.heap.size + 1 + 1 + 1) w1 w' /\ KeepsOthers w1 w') v w1 w2:=hE;simp only [Flow.acts,Act.put];go_simp;obtain ⟨hb2,hl2,hk2⟩:=hE
       gi_wp2
       exact ⟨((Q4l hx9).trans (Q4l (hd9.trans hx))).trans hk2,trivial,by rw [HSN.out,if_pos ⟨trivial,trivial⟩]; exact hb2,(HB.out.trans ((hx9.trans (hd9.trans hx)).mono (by omega))).trans hl2⟩
  . have hmw':¬ (m:Int) = (wi:Int):=by omega
    have hbe:((m:Int) == (wi:Int)) = false:=beq_eq_false_iff_ne.2 hmw'
    gi_wp2_with (refine (show Fence.wide.fn _ /\ _ from ⟨trivial,?_⟩))
    exact ⟨KeepsOthers.refl _,trivial,by rw [HSN.out,if_neg (fun h=>hmw h.1),Int.add_zero]; exact HC'.out,HB.out⟩
end Go.Proofs
