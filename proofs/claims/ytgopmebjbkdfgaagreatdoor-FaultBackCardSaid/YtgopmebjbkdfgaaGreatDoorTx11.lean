/- Contract: the sum of the products over the cut sets that have some events. DERIVED: THE SHELF's CONTRACTS AT THIS DUMP, IN PLAIN WORDS (tools/lay-plain.mjs out of 'TryzShelf.lean', which tools/lay-shelf.mjs wrote): THE SAME DECLARATIONS UNDER THE SAME NAMES: 'import', 'namespace', 'open', 'def', 'theorem' AND NOTHING ELSE: no command of the shelf's: FOR A HAND-IN. Each laying: the table of numbers ('.._ren') and one theorem, a field a fact of the dump's own or the kernel's comparison; each contract: ONE APPLICATION. Contract: the numbers that are written in the bits of a number. -/
import Derived.Test.YtgopmebjbkdfgaaGreatDoorTx10
import Derived.Ground.Names7Prog
import Derived.Ground.SlsfProg
import Derived.Shelf.Spec.TrailingZeros
import Derived.Shelf.SlSortCmp.Whole1
import Derived.Shelf.SlGeneric
import Derived.Shelf.Strings.Builder1
import Derived.Shelf.Strings.Builder2
import Derived.Shelf.Strings.OnBuilder
import Derived.Shelf.Small.Bits
import Derived.Shelf.Small.Wraps
import Derived.Shelf.Strings.BuilderF
import Derived.Shelf.Strings.BuilderK
import Derived.Shelf.Strings.Builder2Cap
import Derived.Shelf.Strconv.Itoa0
import Derived.Shelf.Strconv.Itoa1
import Derived.Shelf.LaysM
import Derived.Shelf.Strconv.Itoa2
import Derived.Shelf.Strconv.Itoa3
import Derived.Shelf.Strings.Search1
import Derived.Shelf.Strings.Search2
import Derived.Shelf.Strings.Search3
import Derived.Shelf.Strings.Cut
import Derived.Shelf.Strings.Count
import Derived.Shelf.Strings.Shaped
import Derived.Shelf.Strings.Split
import Derived.Shelf.Unicode.DecodeSlow
import Derived.Shelf.Strings.BuilderCap
import Derived.Shelf.Slices.Turned
import Derived.Ground.Names2Prog
import Derived.Shelf.Slices.Clone
import Derived.Shelf.Slices.SearchI
import Derived.Ground.SlgnProg
import Derived.Shelf.SlicesE.Clone
import Derived.Test.YtgopmebjbkdfgaaGreatDoorProg
set_option maxRecDepth 1000000
set_option maxHeartbeats 64000000
set_option linter.unusedVariables false
set_option linter.unusedSimpArgs false
set_option linter.constructorNameAsVariable false
namespace Go.Proofs
open Go.RowKit Go.Tw Go.Flow
attribute [local go_sem] Oper.semAt_some
def Y6d (t:Tree) (c:List Int) (wi s:Nat):Int:=if (s &&& wi) = wi /\ t.fails (evN s) = true then partOf c s else 0
def sumW {N:Nat} (t:Tree) (c:List Int) (wi:Nat):List (Fin N) -> Int
 | []=>0
 | x :: l=>Y6d t c wi x.1 + sumW t c wi l
theorem sumW_snoc {N:Nat} (t:Tree) (c:List Int) (wi:Nat) (x:Fin N):∀ l,sumW t c wi (l ++ [x]) = sumW t c wi l + Y6d t c wi x.1
 | []=>by simp [sumW]
 | y :: l=>by rw [List.cons_append,sumW,sumW,sumW_snoc t c wi x l,Int.add_assoc]
theorem Z2j {c:List Int} (h:Small c) (t:Tree) (wi s:Nat):0 <= Y6d t c wi s /\ Y6d t c wi s <= 281474976710656:=by
 unfold Y6d
 split
 . exact X1x h s (Nat.le_refl _)
 . omega
theorem Y2z {N:Nat} {c:List Int} (h:Small c) (t:Tree) (wi:Nat):∀ l:List (Fin N),0 <= sumW t c wi l /\ sumW t c wi l <= l.length * 281474976710656
 | []=>by simp [sumW]
 | x :: l=>by
   have h1:=Z2j h t wi x.1;have h2:=Y2z h t wi l;rw [sumW,List.length_cons];have h3:((l.length + 1:Nat):Int) = (l.length:Int) + 1:=by omega
   rw [h3,Int.add_mul];omega
def Q1i (t:Tree) (c:List Int) (wi:Nat):Int:=sumW t c wi (List.finRange (2 ^ t.size))
theorem Q4w (w:World) (fv gv:Value) (t:Tree) (c0 c:List Int) (wi:Nat) (hv:Valid t) (hn:Y2t w fv gv t) (hc:Small c) (hlen:c.length = t.size) (hw:wi < 2 ^ 62) :
    Calls Tryz.prog 92 #[noV t c0 fv gv,chV c,.int .i64 wi] w fun e w'=>e = .returned (.int .i64 (Q1i t c wi)) /\ Ext w w':=by
 obtain ⟨A1,cap1,rfl,_,_,_⟩:=hn.fails.opened;obtain ⟨A2,cap2,rfl,_,_,_⟩:=hn.gates.opened;rw [Q2g] at hn ⊢;have HN:=Lib.hid hn;have HV:=Lib.hid hv;have HC:=Lib.hid hc;have HLEN:=Lib.hid hlen;have hsz:=hv.size;clear hn hv hc hlen;rw [Y6c];unfold noV;refine (callsIn_wide (n:=9)).1 ?_;refine callsIn_of_wp_marks Tryz.func92 rfl trivial ?_ rfl;simp only [Tryz.ntmps92,List.size_toArray,List.length_cons,List.length_nil,Nat.reduceAdd,Nat.reduceSub,Array.replicate_succ,Array.replicate_zero,List.push_toArray,List.append_toArray,List.nil_append,List.cons_append]
 gi_wp2_with (refine ⟨trivial,?_⟩; gi_at_call 94; refine (callsIn_wide.2 (X1d _ t c0 A1 t.size cap1)).mono ?_; rintro e w' ⟨rfl,hce,hse,hxe⟩)
 have es0:(w.alloc (.cells (outA t.size (.slice A1 t.size cap1) c0 t.basics.length (.slice A2 t.gates.length cap2)) 129)).heap.size = w.heap.size + 1:=by simp
 have k0:=Blk.made w 129 (outA t.size (.slice A1 t.size cap1) c0 t.basics.length (.slice A2 t.gates.length cap2));have x0:=Ext.box w (.cells (outA t.size (.slice A1 t.size cap1) c0 t.basics.length (.slice A2 t.gates.length cap2)) 129);replace hxe:Ext ((((w.alloc (.cells (outA t.size (.slice A1 t.size cap1) c0 t.basics.length (.slice A2 t.gates.length cap2)) 129)).alloc (.cells (chA c) 124)).alloc (.cells #[.int .i64 wi] 3)).alloc (.cells #[.int .i64 0] 3)) w':=hxe;replace hce:w'.cell? ⟨((((w.alloc (.cells (outA t.size (.slice A1 t.size cap1) c0 t.basics.length (.slice A2 t.gates.length cap2)) 129)).alloc (.cells (chA c) 124)).alloc (.cells #[.int .i64 wi] 3)).alloc (.cells #[.int .i64 0] 3)).heap.size,0,none⟩ = some (.int .i64 t.size):=hce;replace hse:w'.heap.size = ((((w.alloc (.cells (outA t.size (.slice A1 t.size cap1) c0 t.basics.length (.slice A2 t.gates.length cap2)) 129)).alloc (.cells (chA c) 124)).alloc (.cells #[.int .i64 wi] 3)).alloc (.cells #[.int .i64 0] 3)).heap.size + 1:=hse;obtain ⟨X0,hX0⟩:∃ X,w.alloc (.cells (outA t.size (.slice A1 t.size cap1) c0 t.basics.length (.slice A2 t.gates.length cap2)) 129) = X:=⟨_,rfl⟩;rw [hX0] at hxe hce hse k0 x0 es0;have k1:=Blk.made X0 124 (chA c);have x1:=Ext.box X0 (.cells (chA c) 124);have es1:(X0.alloc (.cells (chA c) 124)).heap.size = X0.heap.size + 1:=by simp
 obtain ⟨X1,hX1⟩:∃ X,X0.alloc (.cells (chA c) 124) = X:=⟨_,rfl⟩;rw [hX1] at hxe hce hse k1 x1 es1;have k2:=Blk.made X1 3 #[.int .i64 wi];have x2:=Ext.box X1 (.cells #[.int .i64 wi] 3);have es2:(X1.alloc (.cells #[.int .i64 wi] 3)).heap.size = X1.heap.size + 1:=by simp
 obtain ⟨X2,hX2⟩:∃ X,X1.alloc (.cells #[.int .i64 wi] 3) = X:=⟨_,rfl⟩;rw [hX2] at hxe hce hse k2 x2 es2;have k3:=Blk.made X2 3 #[.int .i64 0];have x3:=Ext.box X2 (.cells #[.int .i64 0] 3);have es3:(X2.alloc (.cells #[.int .i64 0] 3)).heap.size = X2.heap.size + 1:=by simp
 obtain ⟨X3,hX3⟩:∃ X,X2.alloc (.cells #[.int .i64 0] 3) = X:=⟨_,rfl⟩;rw [hX3] at hxe hce hse k3 x3 es3;clear hX0 hX1 hX2 hX3;replace k0:=((k0.ext x1).ext x2).ext (x3.trans hxe);replace k1:=(k1.ext x2).ext (x3.trans hxe);replace k2:=k2.ext (x3.trans hxe);replace k3:=k3.ext hxe;have XW:Ext w w':=(((x0.trans x1).trans x2).trans x3).trans hxe;have e1:X0.heap.size = w.heap.size + 1:=es0;have e2:X1.heap.size = w.heap.size + 1 + 1:=by omega
 have e3:X2.heap.size = w.heap.size + 1 + 1 + 1:=by omega
 have e4:X3.heap.size = w.heap.size + 1 + 1 + 1 + 1:=by omega
 have e5:w'.heap.size = w.heap.size + 1 + 1 + 1 + 1 + 1:=by omega
 rw [e1] at k1;rw [e2] at k2;rw [e3] at k3;rw [e4] at hce;clear es0 es1 es2 es3 e1 e2 e3 e4 hse x0 x1 x2 x3 hxe;have HXW:=Lib.hid XW;clear XW;refine wpIn_rangeFunc_ownF (n:=9) rfl (by omega) (gf:=138) (lb:=#[.pointer (some ⟨w.heap.size + 1 + 1 + 1 + 1,0,none⟩)]) rfl trivial (enters_of Tryz.func138 (by kernel_rfl) rfl)
  (X0b _ (w.heap.size + 1 + 1 + 1 + 1) (2 ^ t.size) w' t rfl hsz hce) (fun _ _=>trivial) (fun _ _ _ _ _ _ _ _=>trivial) (Below.refl _ _) (fun _=>rfl)
  (fun pre W=>Blk W (w.heap.size + 1 + 1 + 1) 3 #[.int .i64 (sumW t c wi pre)] /\ Below (w.heap.size + 1 + 1 + 1) w' W)
  (fun _ _ _=>False)
  (OwnFrom.and (Own.from (Blk.own _ _ _) _) (ownFrom_below (by omega) (by omega)))
  (fun _ _ _ _ _ hs _ _=>hs)
  ⟨k3,Below.refl _ _⟩
  (fun x=>{ tmps:=#[noV t c0 (.slice A1 t.size cap1) (.slice A2 t.gates.length cap2),.agg (chA c),.int .i64 wi,.pointer (some ⟨w.heap.size,0,none⟩),.pointer (some ⟨w.heap.size + 1,0,none⟩),.pointer (some ⟨w.heap.size + 1 + 1,0,none⟩),.int .i64 0,.pointer (some ⟨w.heap.size + 1 + 1 + 1,0,none⟩),.int .i64 x.1,.pointer (some ⟨w.heap.size,0,none⟩),evV t c0 (.slice A1 t.size cap1),.func (.func 138) #[] #[.pointer (some ⟨w.heap.size + 1 + 1 + 1 + 1,0,none⟩)],.int .i64 x.1,undef,undef,undef,undef,undef,undef,undef,undef,undef,undef,undef,undef,undef,undef,undef,undef,undef],defers:=[] }) ?assign ?body ?done ?stop
 case assign =>
  intro l x W K hK
  gi_wp2
  exact hK
 case stop =>
  rintro D cc pre W _ _ h _;exact h.elim
 case done =>
  rintro D ys W hD rfl ⟨hb,hB⟩ hK;have hcell:=hb.cell 0
  gi_wp2
  refine ⟨by simp,.inl ⟨_,_,rfl,run_takeDeferred hK,?_⟩⟩
  exact ⟨_,results_tmp rfl _ _ _,rfl,Below.trans (Below.trans HXW.out (hB.mono (by omega))) (belowK_b (w:=w) (Nat.le_refl _) W D _ _ (by omega) hK rfl rfl)⟩
 case body =>
  rintro l pre x W ⟨hb,hB⟩ hpl;obtain ⟨x,hxN⟩:=x;dsimp only;have h12:(2:Nat) ^ t.size <= 2 ^ 12:=Nat.pow_le_pow_right (by omega) hsz
  have b0:=k0.below hB (by omega)
  have b1:=k1.below hB (by omega)
  have b2:=k2.below hB (by omega)
  have c2:W.cell? ⟨w.heap.size + 1 + 1,0,none⟩ = some (.int .i64 wi):=b2.cell 0;have c3:W.cell? ⟨w.heap.size + 1 + 1 + 1,0,none⟩ = some (.int .i64 (sumW t c wi pre)):=hb.cell 0;have f3:W.frozen? ⟨w.heap.size + 1 + 1 + 1,0,none⟩ = false:=hb.frozen 0;have hnW:Y2t W (.slice A1 t.size cap1) (.slice A2 t.gates.length cap2) t:=HN.out.ext (Below.trans HXW.out (hB.mono (by omega)))
  have hs1:=Y2z HC.out t wi pre;have hs2:=X1x HC.out x (Nat.le_refl c.length);have han:=Z2p (a:=x) (b:=wi) (by omega) hw
  have hsn:=sumW_snoc t c wi ⟨x,hxN⟩ pre;have HSN:Hid (sumW t c wi (pre ++ [⟨x,hxN⟩]) = sumW t c wi pre + (if (x &&& wi) = wi /\ t.fails (evN x) = true then partOf c x else 0)):=Lib.hid (by rw [hsn,Y6d])
  clear hsn;obtain ⟨m,hm⟩:∃ m,x &&& wi = m:=⟨_,rfl⟩;obtain ⟨S,hS⟩:∃ S,sumW t c wi pre = S:=⟨_,rfl⟩;obtain ⟨p,hp⟩:∃ p,partOf c x = p:=⟨_,rfl⟩;have hp':Q7k c x c.length = p:=hp;rw [hp'] at hs2;rw [hS] at hs1 c3 hb;rw [hm] at han HSN;rw [hS,hp] at HSN;have hw7:IntKind.i64.wrap (S + p) = S + p:=wrap_in (by omega) (by omega)
  have HC':=Lib.hid hb;have HPA:Hid (∀ w',Calls Tryz.prog 137 #[noV t c0 (.slice A1 t.size cap1) (.slice A2 t.gates.length cap2),.int .i64 x,chV c] w' fun e w''=>e = .returned (.int .i64 p) /\ Ext w' w''):=by
   exact (by intro w'; rw [<- hp]; exact Z3t w' t c c0 _ _ _ _ _ _ x HC.out HLEN.out (by omega):∀ w',Calls Tryz.prog 137 #[noV t c0 (.slice A1 t.size cap1) (.slice A2 t.gates.length cap2),.int .i64 x,chV c] w' fun e w''=>e = .returned (.int .i64 p) /\ Ext w' w'')
  have HB:=Lib.hid hB;have HNW:=Lib.hid hnW;have HB0:=Lib.hid b0;have HB1:=Lib.hid b1;clear hS hp hp' hs1 hs2 hm hnW hb hB b0 b1 b2 h12;have hlW:w.heap.size + 1 + 1 + 1 < W.heap.size:=World.block_lt_of_cell? W _ c3
  by_cases hmw:m = wi
  . subst hmw
    cases hfa:t.fails (evN x) with
    | false =>
      rw [hfa] at HSN
      gi_wp2_with (first | (refine (show Fence.wide.fn _ /\ _ from ⟨trivial,?_⟩)) | (refine Q4l (by go_simp) _ _ rfl Tryz.Q1s Tryz.Q0r rfl HB0.out rfl ?_) | (gi_at_call 73; refine (CallsIn.inRound l (callsIn_wide.2 (Q7t _ _ _ t c0 x HV.out hxN HNW.out))).mono ?_; rw [hfa]; rintro e w9 ⟨rfl,hx9⟩))
      exact ⟨Q4c hx9,trivial,by rw [HSN.out,if_neg (by simp),Int.add_zero]; exact HC'.out.ext hx9,HB.out.trans (hx9.mono (by omega))⟩
    | true =>
      rw [hfa] at HSN
      gi_wp2_with (first | (refine (show Fence.wide.fn _ /\ _ from ⟨trivial,?_⟩)) | (refine Q4l (by go_simp) _ _ rfl Tryz.Q1s Tryz.Q0r rfl HB0.out rfl ?_) | (gi_at_call 73; refine (CallsIn.inRound l (callsIn_wide.2 (Q7t _ _ _ t c0 x HV.out hxN HNW.out))).mono ?_; rw [hfa]; rintro e w9 ⟨rfl,hx9⟩))
      replace c3:=hx9.cell c3;have f9:=(hx9.frozen (p:=⟨w.heap.size + 1 + 1 + 1,0,none⟩) hlW).trans f3;have h9:=Nat.lt_of_lt_of_le hlW hx9.size;have hd9:=(Ext.refl w9).drew;clear c2 f3;refine Flow.Y3x [.w,.w,.p,.w,.w,.p,.last] [0,1,2,3,4,5,6] [[],[],[],[],[1,2,3],[0,1,2,3,4],[0,1,2,3,4,5]] [6]
       [.c 0 (.int .i64 S),.c 1 (noV t c0 (.slice A1 t.size cap1) (.slice A2 t.gates.length cap2)),.c 2 (.int .i64 x),.c 3 (chV c),.c 4 (.int .i64 p),.c 5 (.int .i64 (S + p)),.none]
       [fun v w1 w'=>Blk w' (w.heap.size + 1 + 1 + 1) 3 #[.int .i64 (S + p)] /\ Below (w.heap.size + 1 + 1 + 1) w1 w' /\ KeepsOthers w1 w'] (by kernel_rfl) (by kernel_rfl) rfl (by kernel_rfl) ⟨?g0,?g1,?g2,?g3,?g4,?g5,?g6,trivial⟩ ?post
      case g0=>
       intro v w1 hx;have c3:=hx.cell c3;intro K hK;go_simp;exact hK _ _ (Ext.refl _) rfl
      case g1=>
       intro v w1 hx;have c3:=hx.cell c3;intro K hK;exact Q0n _ _ rfl Tryz.Q1s Tryz.Q0r (by go_simp) ((HB0.out.ext hx9).ext (hd9.trans hx)) rfl (hK _ _ (Ext.refl _) rfl)
      case g2=>
       intro v w1 hx;refine ⟨_,fun w=>?_,rfl⟩;go_simp
      case g3=>
       intro v w1 hx;have c3:=hx.cell c3;intro K hK;exact Q0n _ _ rfl Tryz.Q6u Tryz.Q3z (by go_simp) ((HB1.out.ext hx9).ext (hd9.trans hx)) rfl (hK _ _ (Ext.refl _) rfl)
      case g4=>
       intro v w1 hx;(repeat intro (zq:v _ = _));have c3:=hx.cell c3;intro K hK;go_simp;refine Q0d (HPA.out w1) ?_;rintro e w2 ⟨rfl,hx2⟩;exact ⟨_,rfl,hK _ _ hx2 rfl⟩
      case g5=>
       intro v w1 hx;(repeat intro (zq:v _ = _));refine ⟨_,fun w=>?_,rfl⟩;go_simp
      case g6=>
       intro v w1 hx;(repeat intro (zq:v _ = _));intro wl hT;obtain rfl:wl = w1:=hT;intro bb hbb;subst hbb;have c3:=hx.cell c3;intro K hK;have g0:=(hx.frozen (p:=⟨w.heap.size + 1 + 1 + 1,0,none⟩) h9).trans f9;have gb:=(HC'.out.ext hx9).ext (hd9.trans hx);go_simp;exact hK _ _ ⟨gb.set 0 _,(Below.refl _ wl).setCell (p:=⟨w.heap.size + 1 + 1 + 1,0,none⟩) (Nat.le_refl _) _,KeepsOthers.setCell _ _ _⟩
      case post =>
       intro v w1 hx;(iterate 6 intro (zq:v _ = _));intro w2 hE;replace hE:(fun v w1 w'=>Blk w' (w.heap.size + 1 + 1 + 1) 3 #[.int .i64 (S + p)] /\ Below (w.heap.size + 1 + 1 + 1) w1 w' /\ KeepsOthers w1 w') v w1 w2:=hE;simp only [Flow.acts,Act.put];go_simp;obtain ⟨hb2,hl2,hk2⟩:=hE
       gi_wp2
       exact ⟨((Q4c hx9).trans (Q4c (hd9.trans hx))).trans hk2,trivial,by rw [HSN.out,if_pos ⟨trivial,trivial⟩]; exact hb2,(HB.out.trans ((hx9.trans (hd9.trans hx)).mono (by omega))).trans hl2⟩
  . have hmw':¬ (m:Int) = (wi:Int):=by omega
    have hbe:((m:Int) == (wi:Int)) = false:=beq_eq_false_iff_ne.2 hmw'
    gi_wp2_with (refine (show Fence.wide.fn _ /\ _ from ⟨trivial,?_⟩))
    exact ⟨KeepsOthers.refl _,trivial,by rw [HSN.out,if_neg (fun h=>hmw h.1),Int.add_zero]; exact HC'.out,HB.out⟩
end Go.Proofs
namespace Go.Proofs
open Go.Shelf
open Go.RowKit in
open Go.RowKit in
open Go.RowKit in
open Go.RowKit in
open Go.RowKit in
def Tryz.lays156_ren:Go.Shelf.Ren:=⟨fun | 156=>80 | 165=>127 | 166=>128 | 169=>129 | 240=>148 | 241=>149 | 276=>169 | 277=>170 | n=>n,fun | 31=>72 | 9=>9 | 3=>3 | 4=>4 | 0=>0 | 20=>20 | 72=>190 | 76=>194 | 70=>188 | 37=>122 | 75=>193 | 127=>211 | 164=>226 | 5=>5 | 80=>196 | n=>n,fun | n=>n⟩
theorem Tryz.lays156:Go.Proofs.Lays.n156 Tryz.prog Tryz.lays156_ren:={
 mixed:=by kernel_rfl
 f156:=Tryz.func80.trans (congrArg some (by kernel_rfl))
 f165:=Tryz.func127.trans (congrArg some (by kernel_rfl))
 f166:=Tryz.func128.trans (congrArg some (by kernel_rfl))
 f169:=Tryz.func129.trans (congrArg some (by kernel_rfl))
 f240:=Tryz.func148.trans (congrArg some (by kernel_rfl))
 f241:=Tryz.func149.trans (congrArg some (by kernel_rfl))
 f276:=Tryz.func169.trans (congrArg some (by kernel_rfl))
 f277:=Tryz.func170.trans (congrArg some (by kernel_rfl))
 t0:=Tryz.underlying0
 a0:=Tryz.isAgg0
 z0:=Tryz.sizeOf0
 v0:=Tryz.zeroValue0
 t3:=Tryz.underlying3
 a3:=Tryz.isAgg3
 z3:=Tryz.sizeOf3
 v3:=Tryz.zeroValue3
 t4:=Tryz.underlying4
 a4:=Tryz.isAgg4
 z4:=Tryz.sizeOf4
 v4:=Tryz.zeroValue4
 t9:=Tryz.underlying9
 a9:=Tryz.isAgg9
 z9:=Tryz.sizeOf9
 v9:=Tryz.zeroValue9
 t20:=Tryz.underlying20
 a20:=Tryz.isAgg20
 z20:=Tryz.sizeOf20
 v20:=Tryz.zeroValue20
 t31:=Tryz.underlying72
 a31:=Tryz.isAgg72
 z31:=Tryz.sizeOf72
 v31:=Tryz.zeroValue72
 t37:=Tryz.underlying122
 a37:=Tryz.isAgg122
 z37:=Tryz.sizeOf122
 v37:=Tryz.zeroValue122
 t70:=Tryz.underlying188
 a70:=Tryz.isAgg188
 z70:=Tryz.sizeOf188
 v70:=Tryz.zeroValue188
 t72:=Tryz.underlying190
 a72:=Tryz.isAgg190
 z72:=Tryz.sizeOf190
 v72:=Tryz.zeroValue190
 t75:=Tryz.underlying193
 a75:=Tryz.isAgg193
 z75:=Tryz.sizeOf193
 v75:=Tryz.zeroValue193
 t76:=Tryz.underlying194
 a76:=Tryz.isAgg194
 z76:=Tryz.sizeOf194
 v76:=Tryz.zeroValue194
 t127:=Tryz.underlying211
 a127:=Tryz.isAgg211
 z127:=Tryz.sizeOf211
 v127:=Tryz.zeroValue211
 t164:=Tryz.underlying226
 a164:=Tryz.isAgg226
 z164:=Tryz.sizeOf226
 v164:=Tryz.zeroValue226 }
theorem Tryz.Builder_Extra_156:Builder.Extra Tryz.prog Tryz.lays156_ren:={
 sizeBuilder:=by kernel_rfl
 liesBuilder:=by kernel_rfl
 t5:=Tryz.underlying5
 a5:=Tryz.isAgg5
 z5:=Tryz.sizeOf5
 v5:=Tryz.zeroValue5
 infoByte:=by kernel_rfl
 cellsByte:=by kernel_rfl
 sizeByte:=by kernel_rfl
 neB5:=by decide }
open Go.RowKit in
open Go.RowKit in
theorem Tryz.strings_Join (bk o c:Nat) (xs:List ByteArray) (sep:ByteArray) (w:World) (hcells:∀ (j:Nat) x,xs[j]? = some x -> w.cell? ⟨bk,o + j,none⟩ = some (.string x)) (hbk:bk < w.heap.size) (hN:xs.length <= 140737488355328) (hcap:xs.length <= c) (hlen:(Lib.join (xs.map (·.data.toList)) sep.data.toList).length <= 140737488355328) :
    Calls Tryz.prog 80 #[.slice (some ⟨bk,o,none⟩) xs.length c,.string sep] w fun e w'=>e = .returned (.string ⟨(Lib.join (xs.map (·.data.toList)) sep.data.toList).toArray⟩) /\ Below w.heap.size w w':=Any.strings_Join Tryz.lays156 Tryz.Builder_Extra_156 bk o c xs sep w hcells hbk hN hcap hlen
def Tryz.Y4l:Go.Shelf.Ren:=⟨fun | 125=>146 | 128=>166 | 129=>167 | n=>n,fun | 46=>205 | 3=>3 | 51=>215 | 53=>217 | 4=>4 | 5=>5 | 9=>9 | n=>n,fun | n=>n⟩
theorem Tryz.lays125:Go.Proofs.Lays.n125 Tryz.prog Tryz.Y4l:={
 mixed:=by kernel_rfl
 f125:=Tryz.func146.trans (congrArg some (by kernel_rfl))
 f128:=Tryz.func166.trans (congrArg some (by kernel_rfl))
 f129:=Tryz.func167.trans (congrArg some (by kernel_rfl))
 t3:=Tryz.underlying3
 a3:=Tryz.isAgg3
 z3:=Tryz.sizeOf3
 v3:=Tryz.zeroValue3
 t4:=Tryz.underlying4
 a4:=Tryz.isAgg4
 z4:=Tryz.sizeOf4
 v4:=Tryz.zeroValue4
 t5:=Tryz.underlying5
 a5:=Tryz.isAgg5
 z5:=Tryz.sizeOf5
 v5:=Tryz.zeroValue5
 t9:=Tryz.underlying9
 a9:=Tryz.isAgg9
 z9:=Tryz.sizeOf9
 v9:=Tryz.zeroValue9
 t46:=Tryz.underlying205
 a46:=Tryz.isAgg205
 z46:=Tryz.sizeOf205
 v46:=Tryz.zeroValue205
 t51:=Tryz.underlying215
 a51:=Tryz.isAgg215
 z51:=Tryz.sizeOf215
 v51:=Tryz.zeroValue215
 t53:=Tryz.underlying217
 a53:=Tryz.isAgg217
 z53:=Tryz.sizeOf217
 v53:=Tryz.zeroValue217 }
theorem Tryz.bits_Len (x:Int) (w:World) (h0:0 <= x) (h1:x <= 18446744073709551615) :
    Calls Tryz.prog 146 #[.int .u64 x] w fun e w'=>e = .returned (.int .i64 (Lib.bitLen x.toNat)) /\ w' = w:=Any.bits_Len Tryz.lays125 x w h0 h1
open Go.RowKit in
open Go.RowKit in
open Go.RowKit in
open Go.RowKit in
open Go.RowKit in
open Go.RowKit in
open Go.RowKit in
open Go.RowKit in
open Go.RowKit in
open Go.RowKit in
open Go.Lib in
open Go.Lib in
open Go.Lib in
open Go.Lib in
open Go.RowKit Go.Sort Go.Lib in
open Go.RowKit Go.Sort Go.Lib in
open Go.RowKit Go.Sort Go.Lib in
open Go.RowKit Go.Sort Go.Lib in
open Go.RowKit Go.Sort Go.Lib in
open Go.RowKit Go.Sort Go.Lib in
def Tryz.Y4d:Go.Shelf.Ren:=⟨fun | 171=>131 | 243=>150 | 246=>171 | 283=>185 | 284=>186 | 285=>187 | 286=>188 | 129=>167 | 317=>195 | 318=>196 | 319=>197 | 320=>144 | 337=>156 | 338=>157 | n=>n,fun | 3=>3 | 9=>9 | 2=>2 | 4=>4 | 171=>240 | 0=>0 | 53=>217 | 37=>122 | 5=>5 | 173=>242 | 212=>252 | 51=>215 | 20=>20 | 213=>253 | 46=>205 | 232=>232 | 233=>233 | n=>n,fun | 17=>3 | 18=>1 | 19=>2 | n=>n⟩
theorem Tryz.lays171:Go.Proofs.Lays.n171 Tryz.prog Tryz.Y4d:={
 mixed:=by kernel_rfl
 f129:=Tryz.func167.trans (congrArg some (by kernel_rfl))
 f171:=Tryz.func131.trans (congrArg some (by kernel_rfl))
 f243:=Tryz.func150.trans (congrArg some (by kernel_rfl))
 f246:=Tryz.func171.trans (congrArg some (by kernel_rfl))
 f283:=Tryz.func185.trans (congrArg some (by kernel_rfl))
 f284:=Tryz.func186.trans (congrArg some (by kernel_rfl))
 f285:=Tryz.func187.trans (congrArg some (by kernel_rfl))
 f286:=Tryz.func188.trans (congrArg some (by kernel_rfl))
 f317:=Tryz.func195.trans (congrArg some (by kernel_rfl))
 f318:=Tryz.func196.trans (congrArg some (by kernel_rfl))
 f319:=Tryz.func197.trans (congrArg some (by kernel_rfl))
 f320:=Tryz.func144.trans (congrArg some (by kernel_rfl))
 f337:=Tryz.func156.trans (congrArg some (by kernel_rfl))
 f338:=Tryz.func157.trans (congrArg some (by kernel_rfl))
 t0:=Tryz.underlying0
 a0:=Tryz.isAgg0
 z0:=Tryz.sizeOf0
 v0:=Tryz.zeroValue0
 t2:=Tryz.underlying2
 a2:=Tryz.isAgg2
 z2:=Tryz.sizeOf2
 v2:=Tryz.zeroValue2
 t3:=Tryz.underlying3
 a3:=Tryz.isAgg3
 z3:=Tryz.sizeOf3
 v3:=Tryz.zeroValue3
 t4:=Tryz.underlying4
 a4:=Tryz.isAgg4
 z4:=Tryz.sizeOf4
 v4:=Tryz.zeroValue4
 t5:=Tryz.underlying5
 a5:=Tryz.isAgg5
 z5:=Tryz.sizeOf5
 v5:=Tryz.zeroValue5
 t9:=Tryz.underlying9
 a9:=Tryz.isAgg9
 z9:=Tryz.sizeOf9
 v9:=Tryz.zeroValue9
 t20:=Tryz.underlying20
 a20:=Tryz.isAgg20
 z20:=Tryz.sizeOf20
 v20:=Tryz.zeroValue20
 t37:=Tryz.underlying122
 a37:=Tryz.isAgg122
 z37:=Tryz.sizeOf122
 v37:=Tryz.zeroValue122
 t46:=Tryz.underlying205
 a46:=Tryz.isAgg205
 z46:=Tryz.sizeOf205
 v46:=Tryz.zeroValue205
 t51:=Tryz.underlying215
 a51:=Tryz.isAgg215
 z51:=Tryz.sizeOf215
 v51:=Tryz.zeroValue215
 t53:=Tryz.underlying217
 a53:=Tryz.isAgg217
 z53:=Tryz.sizeOf217
 v53:=Tryz.zeroValue217
 t171:=Tryz.underlying240
 a171:=Tryz.isAgg240
 z171:=Tryz.sizeOf240
 v171:=Tryz.zeroValue240
 t173:=Tryz.underlying242
 a173:=Tryz.isAgg242
 z173:=Tryz.sizeOf242
 v173:=Tryz.zeroValue242
 t212:=Tryz.underlying252
 a212:=Tryz.isAgg252
 z212:=Tryz.sizeOf252
 v212:=Tryz.zeroValue252
 t213:=Tryz.underlying253
 a213:=Tryz.isAgg253
 z213:=Tryz.sizeOf253
 t232:=Tryz.underlying232
 a232:=Tryz.isAgg232
 z232:=Tryz.sizeOf232
 v232:=Tryz.zeroValue232
 t233:=Tryz.underlying233
 a233:=Tryz.isAgg233
 z233:=Tryz.sizeOf233
 v233:=Tryz.zeroValue233
 g17:=by kernel_rfl
 g18:=by kernel_rfl
 g19:=by kernel_rfl }
open Go.RowKit Go.Sort Go.Lib in
theorem Tryz.strconv_Itoa_small (i:Nat) (hi:i < 100) (w:World) :
    Calls Tryz.prog 131 #[.int .i64 i] w fun e w'=>e = .returned (.string ⟨(Lib.decDigits i).toArray⟩) /\ w' = w:=Any.strconv_Itoa_small Tryz.lays171 i hi w
open Go.RowKit Go.Lib in
open Go.RowKit Go.Lib in
open Go.RowKit Go.Lib in
open Go.RowKit Go.Lib in
open Go.RowKit Go.Lib in
open Go.RowKit Go.Lib in
open Go.RowKit Go.Lib in
open Go.RowKit Go.Lib in
open Go.RowKit Go.Lib in
def Tryz.Y4m:Go.Shelf.Ren:=⟨fun | 145=>83 | 220=>132 | 219=>151 | 217=>172 | 225=>173 | 224=>174 | 267=>175 | 266=>189 | 314=>190 | n=>n,fun | 9=>9 | 4=>4 | 59=>142 | 3=>3 | 5=>5 | 46=>205 | 146=>244 | 51=>215 | n=>n,fun | 1=>0 | n=>n⟩
theorem Tryz.lays145:Go.Proofs.Lays.n145 Tryz.prog Tryz.Y4m:={
 mixed:=by kernel_rfl
 f145:=Tryz.func83.trans (congrArg some (by kernel_rfl))
 f217:=Tryz.func172.trans (congrArg some (by kernel_rfl))
 f219:=Tryz.func151.trans (congrArg some (by kernel_rfl))
 f220:=Tryz.func132.trans (congrArg some (by kernel_rfl))
 f224:=Tryz.func174.trans (congrArg some (by kernel_rfl))
 f225:=Tryz.func173.trans (congrArg some (by kernel_rfl))
 f266:=Tryz.func189.trans (congrArg some (by kernel_rfl))
 f267:=Tryz.func175.trans (congrArg some (by kernel_rfl))
 f314:=Tryz.func190.trans (congrArg some (by kernel_rfl))
 t3:=Tryz.underlying3
 a3:=Tryz.isAgg3
 z3:=Tryz.sizeOf3
 v3:=Tryz.zeroValue3
 t4:=Tryz.underlying4
 a4:=Tryz.isAgg4
 z4:=Tryz.sizeOf4
 v4:=Tryz.zeroValue4
 t5:=Tryz.underlying5
 a5:=Tryz.isAgg5
 z5:=Tryz.sizeOf5
 v5:=Tryz.zeroValue5
 t9:=Tryz.underlying9
 a9:=Tryz.isAgg9
 z9:=Tryz.sizeOf9
 v9:=Tryz.zeroValue9
 t46:=Tryz.underlying205
 a46:=Tryz.isAgg205
 z46:=Tryz.sizeOf205
 v46:=Tryz.zeroValue205
 t51:=Tryz.underlying215
 a51:=Tryz.isAgg215
 z51:=Tryz.sizeOf215
 v51:=Tryz.zeroValue215
 t59:=Tryz.underlying142
 a59:=Tryz.isAgg142
 z59:=Tryz.sizeOf142
 v59:=Tryz.zeroValue142
 t146:=Tryz.underlying244
 a146:=Tryz.isAgg244
 z146:=Tryz.sizeOf244
 v146:=Tryz.zeroValue244
 g1:=by kernel_rfl }
open Go.RowKit Go.Lib in
theorem Tryz.strings_Cut (s sep:ByteArray) (m:Int) (w:World) (hs:s.size < 4294967281) (hm:w.cell? ⟨0,0,none⟩ = some (.int .i64 m)) :
    Calls Tryz.prog 83 #[.string s,.string sep] w fun e w'=>e = .returned (.tuple #[.string ⟨(Lib.cut s.data.toList sep.data.toList).1.toArray⟩,.string ⟨(Lib.cut s.data.toList sep.data.toList).2.1.toArray⟩,.bool (Lib.cut s.data.toList sep.data.toList).2.2]) /\ ∃ n,w' = w.drewN n:=Any.strings_Cut Tryz.lays145 s sep m w hs hm
open Go.RowKit Go.Lib in
open Go.RowKit Go.Lib in
open Go.RowKit Go.Lib in
open Go.RowKit Go.Lib in
open Go.RowKit Go.Lib in
open Go.RowKit Go.Lib in
open Go.RowKit Go.Lib in
open Go.RowKit Go.Lib in
open Go.RowKit Go.Lib in
def Tryz.lays146_ren:Go.Shelf.Ren:=⟨fun | 146=>133 | 221=>152 | 268=>176 | 138=>177 | 143=>178 | 195=>191 | 197=>192 | 218=>193 | 219=>151 | 260=>198 | 217=>172 | 225=>173 | 224=>174 | 267=>175 | 266=>189 | 314=>190 | n=>n,fun | 9=>9 | 31=>72 | 3=>3 | 4=>4 | 0=>0 | 105=>246 | 21=>21 | 5=>5 | 46=>205 | 119=>254 | 139=>257 | 138=>256 | 146=>244 | 51=>215 | n=>n,fun | 1=>0 | 3=>4 | 4=>5 | n=>n⟩
theorem Tryz.lays146:Go.Proofs.Lays.n146 Tryz.prog Tryz.lays146_ren:={
 mixed:=by kernel_rfl
 f138:=Tryz.func177.trans (congrArg some (by kernel_rfl))
 f143:=Tryz.func178.trans (congrArg some (by kernel_rfl))
 f146:=Tryz.func133.trans (congrArg some (by kernel_rfl))
 f195:=Tryz.func191.trans (congrArg some (by kernel_rfl))
 f197:=Tryz.func192.trans (congrArg some (by kernel_rfl))
 f217:=Tryz.func172.trans (congrArg some (by kernel_rfl))
 f218:=Tryz.func193.trans (congrArg some (by kernel_rfl))
 f219:=Tryz.func151.trans (congrArg some (by kernel_rfl))
 f221:=Tryz.func152.trans (congrArg some (by kernel_rfl))
 f224:=Tryz.func174.trans (congrArg some (by kernel_rfl))
 f225:=Tryz.func173.trans (congrArg some (by kernel_rfl))
 f260:=Tryz.func198.trans (congrArg some (by kernel_rfl))
 f266:=Tryz.func189.trans (congrArg some (by kernel_rfl))
 f267:=Tryz.func175.trans (congrArg some (by kernel_rfl))
 f268:=Tryz.func176.trans (congrArg some (by kernel_rfl))
 f314:=Tryz.func190.trans (congrArg some (by kernel_rfl))
 t0:=Tryz.underlying0
 a0:=Tryz.isAgg0
 z0:=Tryz.sizeOf0
 v0:=Tryz.zeroValue0
 t3:=Tryz.underlying3
 a3:=Tryz.isAgg3
 z3:=Tryz.sizeOf3
 v3:=Tryz.zeroValue3
 t4:=Tryz.underlying4
 a4:=Tryz.isAgg4
 z4:=Tryz.sizeOf4
 v4:=Tryz.zeroValue4
 t5:=Tryz.underlying5
 a5:=Tryz.isAgg5
 z5:=Tryz.sizeOf5
 v5:=Tryz.zeroValue5
 t9:=Tryz.underlying9
 a9:=Tryz.isAgg9
 z9:=Tryz.sizeOf9
 v9:=Tryz.zeroValue9
 t21:=Tryz.underlying21
 a21:=Tryz.isAgg21
 z21:=Tryz.sizeOf21
 v21:=Tryz.zeroValue21
 t31:=Tryz.underlying72
 a31:=Tryz.isAgg72
 z31:=Tryz.sizeOf72
 v31:=Tryz.zeroValue72
 t46:=Tryz.underlying205
 a46:=Tryz.isAgg205
 z46:=Tryz.sizeOf205
 v46:=Tryz.zeroValue205
 t51:=Tryz.underlying215
 a51:=Tryz.isAgg215
 z51:=Tryz.sizeOf215
 v51:=Tryz.zeroValue215
 t105:=Tryz.underlying246
 a105:=Tryz.isAgg246
 z105:=Tryz.sizeOf246
 v105:=Tryz.zeroValue246
 t119:=Tryz.underlying254
 a119:=Tryz.isAgg254
 z119:=Tryz.sizeOf254
 t138:=Tryz.underlying256
 a138:=Tryz.isAgg256
 z138:=Tryz.sizeOf256
 v138:=Tryz.zeroValue256
 t139:=Tryz.underlying257
 a139:=Tryz.isAgg257
 z139:=Tryz.sizeOf257
 v139:=Tryz.zeroValue257
 t146:=Tryz.underlying244
 a146:=Tryz.isAgg244
 z146:=Tryz.sizeOf244
 v146:=Tryz.zeroValue244
 g1:=by kernel_rfl
 g3:=by kernel_rfl
 g4:=by kernel_rfl }
open Go.RowKit Go.Lib in
theorem Tryz.strings_Split (s sep:ByteArray) (m:Int) (w:World) (hs:s.size < 4294967281) (hm:w.cell? ⟨0,0,none⟩ = some (.int .i64 m)) (h1:1 <= sep.size) :
    Calls Tryz.prog 133 #[.string s,.string sep] w fun e w' =>
     e = .returned (.slice (some ⟨w.heap.size,0,none⟩) (Lib.countB s sep + 1) (Lib.countB s sep + 1)) /\ w' = w.alloc (.cells ((Lib.splitB sep 0 (Lib.countB s sep) s).map Value.string).toArray 9):=Any.strings_Split Tryz.lays146 (by kernel_rfl) s sep m w hs hm h1
open Go.RowKit Go.Lib in
open Go.Lib in
open Go.Lib in
open Go.Lib in
open Go.Lib in
open Go.Lib in
open Go.Lib in
open Go.Lib in
open Go.Lib in
def Tryz.X9a:Go.Shelf.Ren:=⟨fun | 15=>108 | n=>n,fun | 22=>40 | 3=>3 | 4=>4 | n=>n,fun | n=>n⟩
theorem Tryz.laysNm215:Go.Proofs.Lays2.n15 Tryz.prog Tryz.X9a:={
 mixed:=by kernel_rfl
 f15:=Tryz.func108.trans (congrArg some (by kernel_rfl))
 t3:=Tryz.underlying3
 a3:=Tryz.isAgg3
 z3:=Tryz.sizeOf3
 v3:=Tryz.zeroValue3
 t4:=Tryz.underlying4
 a4:=Tryz.isAgg4
 z4:=Tryz.sizeOf4
 v4:=Tryz.zeroValue4
 t22:=Tryz.underlying40
 a22:=Tryz.isAgg40
 z22:=Tryz.sizeOf40
 v22:=Tryz.zeroValue40
 i3:=by kernel_rfl }
open Go.RowKit Go.Lib in
theorem Tryz.slices_Clone_int (b off n c:Nat) (zs:List Int) (w:World) (hz:n <= zs.length) (hbig:n * 8 <= 140737488355328) (hc:∀ j,j < zs.length -> w.cell? ⟨b,off + j,none⟩ = some (.int .i64 (zs.getD j 0))) :
    Calls Tryz.prog 108 #[.slice (some ⟨b,off,none⟩) n c] w fun e w'=>∃ v',e = .returned v' /\ w'.ownsRow w.heap.size 3 1 v' n ((zs.take n).map (Value.int .i64)) /\ v' ≠ .slice none 0 0 /\ Below w.heap.size w w':=Any.slices_Clone_int Tryz.laysNm215 b off n c zs w hz hbig hc
open Go.RowKit Go.Lib in
theorem Tryz.slices_Clone_int_nil (n c:Nat) (w:World) :
    Calls Tryz.prog 108 #[.slice none n c] w fun e w'=>e = .returned (.slice none 0 0) /\ w' = w:=Any.slices_Clone_int_nil Tryz.laysNm215 n c w
open Go.RowKit Go.Lib in
theorem Tryz.slices_Clone_int_zero (a:Addr) (c:Nat) (w:World) :
    Calls Tryz.prog 108 #[.slice (some a) 0 c] w fun e w'=>∃ v',e = .returned v' /\ w'.ownsRow w.heap.size 3 1 v' 0 [] /\ v' ≠ .slice none 0 0 /\ Below w.heap.size w w':=Any.slices_Clone_int_zero Tryz.laysNm215 a c w
open Go.RowKit Go.Lib in
open Go.RowKit Go.Lib in
open Go.RowKit Go.Lib in
def Tryz.Y4j:Go.Shelf.Ren:=⟨fun | 6=>121 | 15=>146 | 14=>145 | 28=>166 | 29=>167 | 20=>158 | 21=>159 | 22=>160 | 23=>161 | 24=>162 | 25=>163 | 26=>164 | 27=>165 | 46=>179 | 47=>180 | 48=>181 | 49=>182 | 50=>183 | 57=>194 | n=>n,fun | 22=>179 | 24=>180 | 25=>183 | 3=>3 | 39=>205 | 0=>0 | 53=>215 | 55=>217 | 4=>4 | 46=>220 | 45=>219 | 50=>145 | 5=>5 | 9=>9 | 66=>234 | 70=>238 | 76=>248 | 77=>249 | n=>n,fun | n=>n⟩
theorem Tryz.sortSet:Go.Proofs.SlLaysF.n6 Tryz.prog Tryz.Y4j:={
 mixed:=by kernel_rfl
 f6:=⟨Tryz.f121.name,by decide,Tryz.func121.trans (congrArg some (by kernel_rfl))⟩
 f14:=⟨Tryz.f145.name,by decide,Tryz.func145.trans (congrArg some (by kernel_rfl))⟩
 f15:=Tryz.func146.trans (congrArg some (by kernel_rfl))
 f20:=⟨Tryz.f158.name,by decide,Tryz.func158.trans (congrArg some (by kernel_rfl))⟩
 f21:=⟨Tryz.f159.name,by decide,Tryz.func159.trans (congrArg some (by kernel_rfl))⟩
 f22:=⟨Tryz.f160.name,by decide,Tryz.func160.trans (congrArg some (by kernel_rfl))⟩
 f23:=⟨Tryz.f161.name,by decide,Tryz.func161.trans (congrArg some (by kernel_rfl))⟩
 f24:=⟨Tryz.f162.name,by decide,Tryz.func162.trans (congrArg some (by kernel_rfl))⟩
 f25:=⟨Tryz.f163.name,by decide,Tryz.func163.trans (congrArg some (by kernel_rfl))⟩
 f26:=⟨Tryz.f164.name,by decide,Tryz.func164.trans (congrArg some (by kernel_rfl))⟩
 f27:=⟨Tryz.f165.name,by decide,Tryz.func165.trans (congrArg some (by kernel_rfl))⟩
 f28:=Tryz.func166.trans (congrArg some (by kernel_rfl))
 f29:=Tryz.func167.trans (congrArg some (by kernel_rfl))
 f46:=⟨Tryz.f179.name,by decide,Tryz.func179.trans (congrArg some (by kernel_rfl))⟩
 f47:=Tryz.func180.trans (congrArg some (by kernel_rfl))
 f48:=Tryz.func181.trans (congrArg some (by kernel_rfl))
 f49:=⟨Tryz.f182.name,by decide,Tryz.func182.trans (congrArg some (by kernel_rfl))⟩
 f50:=⟨Tryz.f183.name,by decide,Tryz.func183.trans (congrArg some (by kernel_rfl))⟩
 f57:=⟨Tryz.f194.name,by decide,Tryz.func194.trans (congrArg some (by kernel_rfl))⟩
 t0:=Tryz.underlying0
 a0:=Tryz.isAgg0
 z0:=Tryz.sizeOf0
 v0:=Tryz.zeroValue0
 t3:=Tryz.underlying3
 a3:=Tryz.isAgg3
 z3:=Tryz.sizeOf3
 v3:=Tryz.zeroValue3
 t4:=Tryz.underlying4
 a4:=Tryz.isAgg4
 z4:=Tryz.sizeOf4
 v4:=Tryz.zeroValue4
 t5:=Tryz.underlying5
 a5:=Tryz.isAgg5
 z5:=Tryz.sizeOf5
 v5:=Tryz.zeroValue5
 t9:=Tryz.underlying9
 a9:=Tryz.isAgg9
 z9:=Tryz.sizeOf9
 v9:=Tryz.zeroValue9
 t22:=Tryz.underlying179
 a22:=Tryz.isAgg179
 z22:=Tryz.sizeOf179
 v22:=Tryz.zeroValue179
 a24:=Tryz.isAgg180
 z24:=Tryz.sizeOf180
 t25:=Tryz.underlying183
 a25:=Tryz.isAgg183
 z25:=Tryz.sizeOf183
 v25:=Tryz.zeroValue183
 t39:=Tryz.underlying205
 a39:=Tryz.isAgg205
 z39:=Tryz.sizeOf205
 v39:=Tryz.zeroValue205
 t45:=Tryz.underlying219
 a45:=Tryz.isAgg219
 z45:=Tryz.sizeOf219
 v45:=Tryz.zeroValue219
 t46:=Tryz.underlying220
 a46:=Tryz.isAgg220
 z46:=Tryz.sizeOf220
 v46:=Tryz.zeroValue220
 t50:=Tryz.underlying145
 a50:=Tryz.isAgg145
 z50:=Tryz.sizeOf145
 v50:=Tryz.zeroValue145
 t53:=Tryz.underlying215
 a53:=Tryz.isAgg215
 z53:=Tryz.sizeOf215
 v53:=Tryz.zeroValue215
 t55:=Tryz.underlying217
 a55:=Tryz.isAgg217
 z55:=Tryz.sizeOf217
 v55:=Tryz.zeroValue217
 t66:=Tryz.underlying234
 a66:=Tryz.isAgg234
 z66:=Tryz.sizeOf234
 v66:=Tryz.zeroValue234
 t70:=Tryz.underlying238
 a70:=Tryz.isAgg238
 z70:=Tryz.sizeOf238
 v70:=Tryz.zeroValue238
 t76:=Tryz.underlying248
 a76:=Tryz.isAgg248
 z76:=Tryz.sizeOf248
 v76:=Tryz.zeroValue248
 t77:=Tryz.underlying249
 a77:=Tryz.isAgg249
 z77:=Tryz.sizeOf249
 v77:=Tryz.zeroValue249 }
def Tryz.Y3o:Go.Shelf.Ren:=⟨fun | 27=>144 | 28=>156 | 29=>157 | n=>n,fun | 25=>205 | 3=>3 | 27=>215 | 22=>217 | 4=>4 | 53=>232 | 0=>0 | 5=>5 | 54=>233 | n=>n,fun | 0=>1 | 1=>2 | n=>n⟩
theorem Tryz.lays27t:Go.Proofs.Lays7.n27 Tryz.prog Tryz.Y3o:={
 mixed:=by kernel_rfl
 f27:=Tryz.func144.trans (congrArg some (by kernel_rfl))
 f28:=Tryz.func156.trans (congrArg some (by kernel_rfl))
 f29:=Tryz.func157.trans (congrArg some (by kernel_rfl))
 t0:=Tryz.underlying0
 a0:=Tryz.isAgg0
 z0:=Tryz.sizeOf0
 v0:=Tryz.zeroValue0
 i0:=by kernel_rfl
 t3:=Tryz.underlying3
 a3:=Tryz.isAgg3
 z3:=Tryz.sizeOf3
 v3:=Tryz.zeroValue3
 i3:=by kernel_rfl
 t4:=Tryz.underlying4
 a4:=Tryz.isAgg4
 z4:=Tryz.sizeOf4
 v4:=Tryz.zeroValue4
 i4:=by kernel_rfl
 t5:=Tryz.underlying5
 a5:=Tryz.isAgg5
 z5:=Tryz.sizeOf5
 v5:=Tryz.zeroValue5
 i5:=by kernel_rfl
 t22:=Tryz.underlying217
 a22:=Tryz.isAgg217
 z22:=Tryz.sizeOf217
 v22:=Tryz.zeroValue217
 i22:=by kernel_rfl
 t25:=Tryz.underlying205
 a25:=Tryz.isAgg205
 z25:=Tryz.sizeOf205
 v25:=Tryz.zeroValue205
 i25:=by kernel_rfl
 t27:=Tryz.underlying215
 a27:=Tryz.isAgg215
 z27:=Tryz.sizeOf215
 v27:=Tryz.zeroValue215
 i27:=by kernel_rfl
 t53:=Tryz.underlying232
 a53:=Tryz.isAgg232
 z53:=Tryz.sizeOf232
 v53:=Tryz.zeroValue232
 i53:=by kernel_rfl
 t54:=Tryz.underlying233
 a54:=Tryz.isAgg233
 z54:=Tryz.sizeOf233
 g0:=by kernel_rfl
 g1:=by kernel_rfl }
end Go.Proofs
namespace Go.Proofs
open Go.RowKit Go.Tw Go.Flow
def Tab (w:World):Prop:=TabAt 2 Lib.deBruijn64tab w
theorem Tab.ext {w w':World} (h:Tab w) (hx:Ext w w'):Tab w':=fun j hj=>hx.cell (h j hj)
theorem Z4v {a:Nat} (h0:a ≠ 0) (h:a < 65536):∃ k,Lib.ctz 64 a = k /\ k < 16 /\ a.testBit k = true /\ ∀ j,j < k -> a.testBit j = false:=by
 have h1:2 ^ 16 = 65536:=rfl;obtain ⟨m,hm,hk⟩:=Lib.ctzFrom_spec 64 a (by omega) (Nat.lt_of_lt_of_le h (by decide))
 have e:Lib.ctz 64 a = Lib.ctzFrom 64 a:=by unfold Lib.ctz; rw [if_neg h0]
 rw [<- e] at hm hk;obtain ⟨k,hkk⟩:∃ k,Lib.ctz 64 a = k:=⟨_,rfl⟩;rw [hkk] at hm hk;have hb:a.testBit k = true:=by rw [hm,Nat.testBit_two_pow_mul]; simp
 refine ⟨k,hkk,?_,hb,fun j hj=>?_⟩
 . apply Nat.lt_of_not_le
   intro hge;rw [Nat.testBit_lt_two_pow (Nat.lt_of_lt_of_le (by omega) (Nat.pow_le_pow_right (n:=2) (by omega) hge))] at hb
   cases hb
 . rw [hm,Nat.testBit_two_pow_mul]
   simp;omega
theorem X3l (p:Nat -> Bool) {k n:Nat} (h:k < n):(List.range n).filter p = (List.range k).filter p ++ ((if p k then [k] else []) ++ (List.range' (k + 1) (n - k - 1)).filter p):=by
 have e:List.range n = List.range k ++ (k :: List.range' (k + 1) (n - k - 1)):=by
  rw [List.range_eq_range',List.range_eq_range'];have h1:n = k + (1 + (n - k - 1)):=by omega
  have h2:k :: List.range' (k + 1) (n - k - 1) = List.range' k (1 + (n - k - 1)):=by rw [Nat.add_comm 1,List.range'_succ]
  rw [h2]
  conv=>lhs; rw [h1]
  rw [<- List.range'_append];simp
 rw [e,List.filter_append,List.filter_cons]
 split <;> simp
theorem Y8e {a k:Nat} (hk:k < 16) (hb:a.testBit k = true) (hl:∀ j,j < k -> a.testBit j = false):bitsOf a = (k:Int) :: bitsOf (Q2m a (2 ^ k)):=by
 unfold bitsOf;rw [X3l _ hk,X3l (fun i=>(Q2m a (2 ^ k)).testBit i) hk];have e1:(List.range k).filter (a.testBit ·) = []:=by
  rw [List.filter_eq_nil_iff]; intro j hj; rw [hl j (List.mem_range.1 hj)]; simp
 have e2:(List.range k).filter (fun i=>(Q2m a (2 ^ k)).testBit i) = []:=by
  rw [List.filter_eq_nil_iff]; intro j hj; simp only [Q4i,hl j (List.mem_range.1 hj)]; simp
 have e3:(Q2m a (2 ^ k)).testBit k = false:=by rw [Q4i,Nat.testBit_two_pow_self]; simp
 have e4:(List.range' (k + 1) (16 - k - 1)).filter (a.testBit ·) = (List.range' (k + 1) (16 - k - 1)).filter (fun i=>(Q2m a (2 ^ k)).testBit i):=by
  apply List.filter_congr
  intro j hj;have:=List.mem_range'_1.1 hj;rw [Q4i,Nat.testBit_two_pow_of_ne (by omega)]
  simp
 rw [e1,e2,e4];simp [hb,e3]
theorem Z0l (a b:Nat):Q2m a b <= a:=by
 have h:Q2m a b &&& a = Q2m a b:=by
  apply Nat.eq_of_testBit_eq; intro i
  rw [Nat.testBit_and,Q4i];cases a.testBit i <;> simp
 rw [<- h];exact Nat.and_le_right
theorem Y8c {a k:Nat} (hb:a.testBit k = true):Q2m a (2 ^ k) < a:=by
 refine Nat.lt_of_le_of_ne (Z0l a _) fun e=>?_;have:=congrArg (fun x=>x.testBit k) e;simp only [Q4i,hb,Nat.testBit_two_pow_self] at this;cases this
theorem Y4r:bitsOf 0 = []:=rfl
theorem X8n (s:Nat):(bitsOf s).length <= 16:=by
 unfold bitsOf;rw [List.length_map];exact Nat.le_trans (List.length_filter_le _ _) (by simp)
theorem Z9c (a:Nat) (w:World) (h:a < 65536) (hT:Tab w):Calls Tryz.prog 144 #[.int .u64 a] w fun e w'=>e = .returned (.int .i64 (Lib.ctz 64 a)) /\ w' = w :=
 Any7.bits_TrailingZeros Tryz.lays27t a (by omega) w (fun _=>hT)
theorem Y4a (w:World) (s:Nat) (hs:s < 65536) (hT:Tab w) :
    Calls Tryz.prog 120 #[.int .i64 s] w fun e w'=>∃ u,e = .returned u /\ Q0s w' w.heap.size 3 (.int .i64) u (bitsOf s) /\ Ext w w':=by
 obtain ⟨i0,hi,hz0,hz1,hz2⟩:=info_parts Tryz.info3;have HT:=Lib.hid hT;have hbs:=X8n s;clear hT;go_enter Tryz.func120,Tryz.ntmps120;go_wp2
 go_loopw [0,3,4] (fun q u _ wr=>∃ (a:Nat) (l:List Int),q = .int .i64 a /\ a < 65536 /\ l ++ bitsOf a = bitsOf s /\ Q0s wr w.heap.size 3 (.int .i64) u l /\ Ext w wr) (fun q _ _ _=>(intOf q).toNat)
 case atStart=>exact ⟨s,[],rfl,hs,rfl,Q0s.nil _ _ _ _,Ext.refl _⟩
 case round =>
  obtain ⟨a,l,rfl,ha,hla,hown,hx⟩:=hrel
  by_cases hz:a = 0
  . subst hz
    have HL:Hid (l = bitsOf s):=by rw [Y4r,List.append_nil] at hla; exact hla
    clear hla;go_wp2;go_ret;exact ⟨_,rfl,by rw [<- HL.out]; exact hown,hx⟩
  . obtain ⟨k,hck,hk,hb,hl⟩:=Z4v hz ha
    have hd:=Y8e hk hb hl;have hlt:=Y8c hb;have hcl:=Q6p (n:=16) (2 ^ k) (show a < 2 ^ 16 by omega)
    have hp:=Y3w (n:=k) (by omega)
    have hp2:(2:Nat) ^ k < 2 ^ 62:=Nat.pow_lt_pow_right (by omega) (by omega)
    have han:=Q9s (a:=a) (b:=2 ^ k) (by omega) hp2
    have hlen:l.length <= 16:=by
     have:=congrArg List.length hla;rw [List.length_append] at this;omega
    rw [hd] at hla;have htz:∀ w',Ext w w' -> Calls Tryz.prog 144 #[.int .u64 a] w' fun e w''=>e = .returned (.int .i64 k) /\ w'' = w':=by
     intro w' hx';have:=Z9c a w' ha (HT.out.ext hx');rw [hck] at this;exact this
    have HTZ:=Lib.hid htz;have hcv:IntKind.u64.wrap (a:Int) = (a:Int):=by unfold IntKind.wrap; simp only [IntKind.signed,IntKind.bits]; simp; omega
    have hne:(((a:Nat):Int) != 0) = true:=by simp; omega
    obtain ⟨Z,hZ⟩:∃ Z,2 ^ k = Z:=⟨_,rfl⟩;obtain ⟨Y,hY⟩:∃ Y,Q2m a Z = Y:=⟨_,rfl⟩;have hk62:(k:Int) < 64:=by omega
    rw [hZ] at hp hla han hlt hcl;rw [hY] at hla han hlt hcl;have HLA:=Lib.hid hla;clear htz hck hb hl hd hla hZ hY hp2 hbs;go_wp2_with (first | (go_at_call 144; refine (HTZ.out _ hx).mono ?_; rintro e w9 ⟨rfl,rfl⟩) | (at_builtin; refine wpList_append_own _ rfl _ _ 180 rfl (w.heap.size) 3 i0 (.int .i64 0) 1 8 Tryz.underlying180 hi hz0 hz1 hz2 rfl (by decide) _ _ _ rfl (World.ownsRow.alloc hown _) ⟨w9.heap.size,0,none⟩ 1 1 [.int .i64 k] rfl rfl ?_ ?_ ?_ ?_ ?_ ?_; exact Q5k _ _ _; (focus (simp [Value.oneCell'])); (focus (unfold maxLen; omega)); (focus omega); (focus (have:=hx.size; simp at this ⊢; omega)); intro v' w1 hown' hgrow _))
    have hx':=Q3u hx hown (Nat.le_refl _) hgrow;go_wp2;go_roundw
    case rel=>exact ⟨Y,l ++ [(k:Int)],by go_num,by omega,by rw [List.append_assoc]; exact HLA.out,Q0s.snoc hown',hx'⟩
    case measure=>simp [intOf]; omega
end Go.Proofs
