/- Contract: the sum of the products over the cut sets that have some events. -/
import Derived.Test.YtmaejccjimkbiaaGreatDoorFx16
set_option linter.unusedVariables false
set_option linter.unusedSimpArgs false
set_option linter.constructorNameAsVariable false
namespace Go.Proofs
open Go.RowKit Go.Tw Go.Flow
attribute [local go_sem] Oper.semAt_some
def Y5q (t:Tree) (c:List Int) (wi s:Nat):Int:=if (s &&& wi) = wi ∧ t.fails (evN s) = true then partOf c s else 0
def sumW {N:Nat} (t:Tree) (c:List Int) (wi:Nat):List (Fin N) → Int
 | []=>0
 | x :: l=>Y5q t c wi x.1 + sumW t c wi l
theorem sumW_snoc {N:Nat} (t:Tree) (c:List Int) (wi:Nat) (x:Fin N):∀ l,sumW t c wi (l ++ [x]) = sumW t c wi l + Y5q t c wi x.1
 | []=>by simp [sumW]
 | y :: l=>by rw [List.cons_append,sumW,sumW,sumW_snoc t c wi x l,Int.add_assoc]
theorem Z1y {c:List Int} (h:Small c) (t:Tree) (wi s:Nat):0 ≤ Y5q t c wi s ∧ Y5q t c wi s ≤ 281474976710656:=by
 unfold Y5q
 split
 · exact X1b h s (Nat.le_refl _)
 · omega
theorem Y1f {N:Nat} {c:List Int} (h:Small c) (t:Tree) (wi:Nat):∀ l:List (Fin N),0 ≤ sumW t c wi l ∧ sumW t c wi l ≤ l.length * 281474976710656
 | []=>by simp [sumW]
 | x :: l=>by
   have h1:=Z1y h t wi x.1;have h2:=Y1f h t wi l;rw [sumW,List.length_cons];have h3:((l.length + 1:Nat):Int) = (l.length:Int) + 1:=by omega
   rw [h3,Int.add_mul];omega
def Q1g (t:Tree) (c:List Int) (wi:Nat):Int:=sumW t c wi (List.finRange (2 ^ t.size))
set_option maxRecDepth 100000 in
set_option maxHeartbeats 2000000 in
theorem Q4u (w:World) (fv gv:Value) (t:Tree) (c0 c:List Int) (wi:Nat) (hv:Valid t) (hn:X8r w fv gv t) (hc:Small c) (hlen:c.length = t.size) (hw:wi < 2 ^ 62) :
    Calls Tryz.prog 100 #[noV t c0 fv gv,chV c,.int .i64 wi] w fun e w'=>e = .returned (.int .i64 (Q1g t c wi)) ∧ Ext w w':=by
 obtain ⟨A1,cap1,rfl,_,_,_⟩:=hn.fails.opened;obtain ⟨A2,cap2,rfl,_,_,_⟩:=hn.gates.opened;rw [Q2o] at hn ⊢;have HN:=Lib.hid hn;have HV:=Lib.hid hv;have HC:=Lib.hid hc;have HLEN:=Lib.hid hlen;have hsz:=hv.size;clear hn hv hc hlen;rw [Y4f];unfold noV;refine (callsIn_wide (n:=9)).1 ?_;refine callsIn_of_wp_marks Tryz.func100 rfl trivial ?_ rfl;simp only [Tryz.ntmps100,List.size_toArray,List.length_cons,List.length_nil,Nat.reduceAdd,Nat.reduceSub,Array.replicate_succ,Array.replicate_zero,List.push_toArray,List.append_toArray,List.nil_append,List.cons_append]
 gi_wp2_with (refine ⟨trivial,?_⟩; gi_at_call 82; refine (callsIn_wide.2 (X1e _ t c0 A1 t.size cap1)).mono ?_; rintro e w' ⟨rfl,hce,hse,hxe⟩)
 have es0:(w.alloc (.cells (outA t.size (.slice A1 t.size cap1) c0 t.basics.length (.slice A2 t.gates.length cap2)) 121)).heap.size = w.heap.size + 1:=by simp
 have k0:=Blk.made w 121 (outA t.size (.slice A1 t.size cap1) c0 t.basics.length (.slice A2 t.gates.length cap2));have x0:=Ext.box w (.cells (outA t.size (.slice A1 t.size cap1) c0 t.basics.length (.slice A2 t.gates.length cap2)) 121);replace hxe:Ext ((((w.alloc (.cells (outA t.size (.slice A1 t.size cap1) c0 t.basics.length (.slice A2 t.gates.length cap2)) 121)).alloc (.cells (chA c) 116)).alloc (.cells #[.int .i64 wi] 3)).alloc (.cells #[.int .i64 0] 3)) w':=hxe;replace hce:w'.cell? ⟨((((w.alloc (.cells (outA t.size (.slice A1 t.size cap1) c0 t.basics.length (.slice A2 t.gates.length cap2)) 121)).alloc (.cells (chA c) 116)).alloc (.cells #[.int .i64 wi] 3)).alloc (.cells #[.int .i64 0] 3)).heap.size,0,none⟩ = some (.int .i64 t.size):=hce;replace hse:w'.heap.size = ((((w.alloc (.cells (outA t.size (.slice A1 t.size cap1) c0 t.basics.length (.slice A2 t.gates.length cap2)) 121)).alloc (.cells (chA c) 116)).alloc (.cells #[.int .i64 wi] 3)).alloc (.cells #[.int .i64 0] 3)).heap.size + 1:=hse;obtain ⟨X0,hX0⟩:∃ X,w.alloc (.cells (outA t.size (.slice A1 t.size cap1) c0 t.basics.length (.slice A2 t.gates.length cap2)) 121) = X:=⟨_,rfl⟩;rw [hX0] at hxe hce hse k0 x0 es0;have k1:=Blk.made X0 116 (chA c);have x1:=Ext.box X0 (.cells (chA c) 116);have es1:(X0.alloc (.cells (chA c) 116)).heap.size = X0.heap.size + 1:=by simp
 obtain ⟨X1,hX1⟩:∃ X,X0.alloc (.cells (chA c) 116) = X:=⟨_,rfl⟩;rw [hX1] at hxe hce hse k1 x1 es1;have k2:=Blk.made X1 3 #[.int .i64 wi];have x2:=Ext.box X1 (.cells #[.int .i64 wi] 3);have es2:(X1.alloc (.cells #[.int .i64 wi] 3)).heap.size = X1.heap.size + 1:=by simp
 obtain ⟨X2,hX2⟩:∃ X,X1.alloc (.cells #[.int .i64 wi] 3) = X:=⟨_,rfl⟩;rw [hX2] at hxe hce hse k2 x2 es2;have k3:=Blk.made X2 3 #[.int .i64 0];have x3:=Ext.box X2 (.cells #[.int .i64 0] 3);have es3:(X2.alloc (.cells #[.int .i64 0] 3)).heap.size = X2.heap.size + 1:=by simp
 obtain ⟨X3,hX3⟩:∃ X,X2.alloc (.cells #[.int .i64 0] 3) = X:=⟨_,rfl⟩;rw [hX3] at hxe hce hse k3 x3 es3;clear hX0 hX1 hX2 hX3;replace k0:=((k0.ext x1).ext x2).ext (x3.trans hxe);replace k1:=(k1.ext x2).ext (x3.trans hxe);replace k2:=k2.ext (x3.trans hxe);replace k3:=k3.ext hxe;have XW:Ext w w':=(((x0.trans x1).trans x2).trans x3).trans hxe;have e1:X0.heap.size = w.heap.size + 1:=es0;have e2:X1.heap.size = w.heap.size + 1 + 1:=by omega
 have e3:X2.heap.size = w.heap.size + 1 + 1 + 1:=by omega
 have e4:X3.heap.size = w.heap.size + 1 + 1 + 1 + 1:=by omega
 have e5:w'.heap.size = w.heap.size + 1 + 1 + 1 + 1 + 1:=by omega
 rw [e1] at k1;rw [e2] at k2;rw [e3] at k3;rw [e4] at hce;clear es0 es1 es2 es3 e1 e2 e3 e4 hse x0 x1 x2 x3 hxe;have HXW:=Lib.hid XW;clear XW;refine wpIn_rangeFunc_ownF (n:=9) rfl (by omega) (gf:=136) (lb:=#[.pointer (some ⟨w.heap.size + 1 + 1 + 1 + 1,0,none⟩)]) rfl trivial (enters_of Tryz.func136 (by kernel_rfl) rfl)
  (Q9z _ (w.heap.size + 1 + 1 + 1 + 1) (2 ^ t.size) w' t rfl hsz hce) (fun _ _=>trivial) (fun _ _ _ _ _ _ _ _=>trivial) (Below.refl _ _) (fun _=>rfl)
  (fun pre W=>Blk W (w.heap.size + 1 + 1 + 1) 3 #[.int .i64 (sumW t c wi pre)] ∧ Below (w.heap.size + 1 + 1 + 1) w' W)
  (fun _ _ _=>False)
  (OwnFrom.and (Own.from (Blk.own _ _ _) _) (ownFrom_below (by omega) (by omega)))
  (fun _ _ _ _ _ hs _ _=>hs)
  ⟨k3,Below.refl _ _⟩
  (fun x=>{ tmps:=#[noV t c0 (.slice A1 t.size cap1) (.slice A2 t.gates.length cap2),.agg (chA c),.int .i64 wi,.pointer (some ⟨w.heap.size,0,none⟩),.pointer (some ⟨w.heap.size + 1,0,none⟩),.pointer (some ⟨w.heap.size + 1 + 1,0,none⟩),.int .i64 0,.pointer (some ⟨w.heap.size + 1 + 1 + 1,0,none⟩),.int .i64 x.1,.pointer (some ⟨w.heap.size,0,none⟩),evV t c0 (.slice A1 t.size cap1),.func (.func 136) #[] #[.pointer (some ⟨w.heap.size + 1 + 1 + 1 + 1,0,none⟩)],.int .i64 x.1,undef,undef,undef,undef,undef,undef,undef,undef,undef,undef,undef,undef,undef,undef,undef,undef,undef],defers:=[] }) ?assign ?body ?done ?stop
 case assign =>
  intro l x W K hK
  gi_wp2
  exact hK
 case stop =>
  rintro D cc pre W _ _ h _;exact h.elim
 case done =>
  rintro D ys W hD rfl ⟨hb,hB⟩ hK;have hcell:=hb.cell 0
  gi_wp2
  refine ⟨by simp,.inl ⟨_,_,rfl,run_takeDeferred hK,?_⟩⟩
  exact ⟨_,results_tmp rfl _ _ _,rfl,Below.trans (Below.trans HXW.out (hB.mono (by omega))) (belowK_b (w:=w) (Nat.le_refl _) W D _ _ (by omega) hK rfl rfl)⟩
 case body =>
  rintro l pre x W ⟨hb,hB⟩ hpl;obtain ⟨x,hxN⟩:=x;dsimp only;have h12:(2:Nat) ^ t.size ≤ 2 ^ 12:=Nat.pow_le_pow_right (by omega) hsz
  have b0:=k0.below hB (by omega)
  have b1:=k1.below hB (by omega)
  have b2:=k2.below hB (by omega)
  have c2:W.cell? ⟨w.heap.size + 1 + 1,0,none⟩ = some (.int .i64 wi):=b2.cell 0;have c3:W.cell? ⟨w.heap.size + 1 + 1 + 1,0,none⟩ = some (.int .i64 (sumW t c wi pre)):=hb.cell 0;have f3:W.frozen? ⟨w.heap.size + 1 + 1 + 1,0,none⟩ = false:=hb.frozen 0;have hnW:X8r W (.slice A1 t.size cap1) (.slice A2 t.gates.length cap2) t:=HN.out.ext (Below.trans HXW.out (hB.mono (by omega)))
  have hs1:=Y1f HC.out t wi pre;have hs2:=X1b HC.out x (Nat.le_refl c.length);have han:=Z2d (a:=x) (b:=wi) (by omega) hw
  have hsn:=sumW_snoc t c wi ⟨x,hxN⟩ pre;have HSN:Hid (sumW t c wi (pre ++ [⟨x,hxN⟩]) = sumW t c wi pre + (if (x &&& wi) = wi ∧ t.fails (evN x) = true then partOf c x else 0)):=by exact (by rw [hsn,Y5q]:sumW t c wi (pre ++ [⟨x,hxN⟩]) = sumW t c wi pre + (if (x &&& wi) = wi ∧ t.fails (evN x) = true then partOf c x else 0))
  clear hsn;obtain ⟨m,hm⟩:∃ m,x &&& wi = m:=⟨_,rfl⟩;obtain ⟨S,hS⟩:∃ S,sumW t c wi pre = S:=⟨_,rfl⟩;obtain ⟨p,hp⟩:∃ p,partOf c x = p:=⟨_,rfl⟩;have hp':Q7f c x c.length = p:=hp;rw [hp'] at hs2;rw [hS] at hs1 c3 hb;rw [hm] at han HSN;rw [hS,hp] at HSN;have hw7:IntKind.i64.wrap (S + p) = S + p:=wrap_in (by omega) (by omega)
  have HC':=Lib.hid hb;have HPA:Hid (∀ w',Calls Tryz.prog 141 #[noV t c0 (.slice A1 t.size cap1) (.slice A2 t.gates.length cap2),.int .i64 x,chV c] w' fun e w''=>e = .returned (.int .i64 p) ∧ Ext w' w''):=by
   exact (by intro w'; rw [← hp]; exact Z2a w' t c c0 _ _ _ _ _ _ x HC.out HLEN.out (by omega):∀ w',Calls Tryz.prog 141 #[noV t c0 (.slice A1 t.size cap1) (.slice A2 t.gates.length cap2),.int .i64 x,chV c] w' fun e w''=>e = .returned (.int .i64 p) ∧ Ext w' w'')
  have HB:=Lib.hid hB;have HNW:=Lib.hid hnW;have HB0:=Lib.hid b0;have HB1:=Lib.hid b1;clear hS hp hp' hs1 hs2 hm hnW hb hB b0 b1 b2 h12;have hlW:w.heap.size + 1 + 1 + 1 < W.heap.size:=World.block_lt_of_cell? W _ c3
  by_cases hmw:m = wi
  · subst hmw
    cases hfa:t.fails (evN x) with
    | false =>
      rw [hfa] at HSN
      gi_wp2_with (first | (refine (show Fence.wide.fn _ ∧ _ from ⟨trivial,?_⟩)) | (refine Q4h (by go_simp) _ _ rfl Tryz.Q1s Tryz.Q0r rfl HB0.out rfl ?_) | (gi_at_call 69; refine (CallsIn.inRound l (callsIn_wide.2 (Q7x _ _ _ t c0 x HV.out hxN HNW.out))).mono ?_; rw [hfa]; rintro e w9 ⟨rfl,hx9⟩))
      exact ⟨Q4b hx9,trivial,by rw [HSN.out,if_neg (by simp),Int.add_zero]; exact HC'.out.ext hx9,HB.out.trans (hx9.mono (by omega))⟩
    | true =>
      rw [hfa] at HSN
      gi_wp2_with (first | (refine (show Fence.wide.fn _ ∧ _ from ⟨trivial,?_⟩)) | (refine Q4h (by go_simp) _ _ rfl Tryz.Q1s Tryz.Q0r rfl HB0.out rfl ?_) | (gi_at_call 69; refine (CallsIn.inRound l (callsIn_wide.2 (Q7x _ _ _ t c0 x HV.out hxN HNW.out))).mono ?_; rw [hfa]; rintro e w9 ⟨rfl,hx9⟩))
      replace c3:=hx9.cell c3;have f9:=(hx9.frozen (p:=⟨w.heap.size + 1 + 1 + 1,0,none⟩) hlW).trans f3;have h9:=Nat.lt_of_lt_of_le hlW hx9.size;have hd9:=(Ext.refl w9).drew;clear c2 f3;refine Flow.Y1i [.world,.world,.plain,.world,.world,.plain,.last] [0,1,2,3,4,5,6] [[],[],[],[],[1,2,3],[0,1,2,3,4],[0,1,2,3,4,5]] [6]
       [.is 0 (fun v=>.int .i64 S),.is 1 (fun v=>noV t c0 (.slice A1 t.size cap1) (.slice A2 t.gates.length cap2)),.is 2 (fun v=>.int .i64 x),.is 3 (fun v=>chV c),.is 4 (fun v=>.int .i64 p),.is 5 (fun v=>.int .i64 (S + p)),.none]
       [fun v w1 w'=>Blk w' (w.heap.size + 1 + 1 + 1) 3 #[.int .i64 (S + p)] ∧ Below (w.heap.size + 1 + 1 + 1) w1 w' ∧ KeepsOthers w1 w'] (by kernel_rfl) (by kernel_rfl) rfl (by kernel_rfl) ⟨?g0,?g1,?g2,?g3,?g4,?g5,?g6,trivial⟩ ?post
      case g0 =>
       intro v w1 hx;have c3:=hx.cell c3;intro K hK;go_simp;exact hK _ _ (Ext.refl _) rfl
      case g1 =>
       intro v w1 hx;have c3:=hx.cell c3;intro K hK;exact Q0n _ _ rfl Tryz.Q1s Tryz.Q0r (by go_simp) ((HB0.out.ext hx9).ext (hd9.trans hx)) rfl (hK _ _ (Ext.refl _) rfl)
      case g2 =>
       intro v w1 hx;have c3:=hx.cell c3;refine ⟨_,fun w=>?_,rfl⟩;go_simp
      case g3 =>
       intro v w1 hx;have c3:=hx.cell c3;intro K hK;exact Q0n _ _ rfl Tryz.Q6x Tryz.Q4a (by go_simp) ((HB1.out.ext hx9).ext (hd9.trans hx)) rfl (hK _ _ (Ext.refl _) rfl)
      case g4 =>
       intro v w1 hx (q1:v 1 = noV t c0 (.slice A1 t.size cap1) (.slice A2 t.gates.length cap2)) (q2:v 2 = .int .i64 x) (q3:v 3 = chV c);have c3:=hx.cell c3;intro K hK;go_simp;refine Q0e (HPA.out w1) ?_;rintro e w2 ⟨rfl,hx2⟩;exact ⟨_,rfl,hK _ _ hx2 rfl⟩
      case g5 =>
       intro v w1 hx (q0:v 0 = .int .i64 S) (q1:v 1 = noV t c0 (.slice A1 t.size cap1) (.slice A2 t.gates.length cap2)) (q2:v 2 = .int .i64 x) (q3:v 3 = chV c) (q4:v 4 = .int .i64 p);have c3:=hx.cell c3;refine ⟨_,fun w=>?_,rfl⟩;go_simp
      case g6 =>
       intro v w1 hx (q0:v 0 = .int .i64 S) (q1:v 1 = noV t c0 (.slice A1 t.size cap1) (.slice A2 t.gates.length cap2)) (q2:v 2 = .int .i64 x) (q3:v 3 = chV c) (q4:v 4 = .int .i64 p) (q5:v 5 = .int .i64 (S + p));intro wl hT;obtain rfl:wl = w1:=hT;intro bb hbb;subst hbb;have c3:=hx.cell c3;intro K hK;have g0:=(hx.frozen (p:=⟨w.heap.size + 1 + 1 + 1,0,none⟩) h9).trans f9;have gb:=(HC'.out.ext hx9).ext (hd9.trans hx);go_simp;exact hK _ _ ⟨gb.set 0 _,(Below.refl _ wl).setCell (p:=⟨w.heap.size + 1 + 1 + 1,0,none⟩) (Nat.le_refl _) _,KeepsOthers.setCell _ _ _⟩
      case post =>
       intro v w1 hx (q0:v 0 = .int .i64 S) (q1:v 1 = noV t c0 (.slice A1 t.size cap1) (.slice A2 t.gates.length cap2)) (q2:v 2 = .int .i64 x) (q3:v 3 = chV c) (q4:v 4 = .int .i64 p) (q5:v 5 = .int .i64 (S + p));intro w2 hE;replace hE:(fun v w1 w'=>Blk w' (w.heap.size + 1 + 1 + 1) 3 #[.int .i64 (S + p)] ∧ Below (w.heap.size + 1 + 1 + 1) w1 w' ∧ KeepsOthers w1 w') v w1 w2:=hE;simp only [Flow.acts,Act.put];go_simp;obtain ⟨hb2,hl2,hk2⟩:=hE
       gi_wp2
       exact ⟨((Q4b hx9).trans (Q4b (hd9.trans hx))).trans hk2,trivial,by rw [HSN.out,if_pos ⟨trivial,trivial⟩]; exact hb2,(HB.out.trans ((hx9.trans (hd9.trans hx)).mono (by omega))).trans hl2⟩
  · have hmw':¬ (m:Int) = (wi:Int):=by omega
    have hbe:((m:Int) == (wi:Int)) = false:=beq_eq_false_iff_ne.2 hmw'
    gi_wp2_with (refine (show Fence.wide.fn _ ∧ _ from ⟨trivial,?_⟩))
    exact ⟨KeepsOthers.refl _,trivial,by rw [HSN.out,if_neg (fun h=>hmw h.1),Int.add_zero]; exact HC'.out,HB.out⟩
end Go.Proofs
