/- Contract: the sum of the products over the cut sets that have some events. DERIVED: THE SHELF's CONTRACTS AT THIS DUMP, IN PLAIN WORDS (tools/lay-plain.mjs out of 'TrydShelf.lean', which tools/lay-shelf.mjs wrote): THE SAME DECLARATIONS UNDER THE SAME NAMES: 'import', 'namespace', 'open', 'def', 'theorem' AND NOTHING ELSE: no command of the shelf's: FOR A HAND-IN. Each laying: the table of numbers ('.._ren') and one theorem, a field a fact of the dump's own or the kernel's comparison; each contract: ONE APPLICATION. Contract: the numbers that are written in the bits of a number. What the listed tables give; small facts on the program for the rows. -/
import Derived.Test.YtghcnlbkghaaeaaDoorPv10
import Derived.Ground.Names7Prog
import Derived.Ground.SlsfProg
import Derived.Shelf.Spec.TrailingZeros
import Derived.Shelf.SlSortCmp.Whole1
import Derived.Shelf.SlGeneric
import Derived.Shelf.Small.Bits
import Derived.Shelf.Small.Wraps
import Derived.Shelf.Strconv.Itoa0
import Derived.Shelf.Slices.Turned
import Derived.Ground.Names2Prog
import Derived.Shelf.Slices.Clone
import Derived.Shelf.Slices.SearchI
import Derived.Ground.SlgnProg
import Derived.Shelf.SlicesE.Clone
import Derived.Test.YtghcnlbkghaaeaaDoorProg
import Derived.Test.YtghcnlbkghaaeaaDoorPv01
import Derived.Test.YtghcnlbkghaaeaaDoorRows
import Derived.Test.YtghcnlbkghaaeaaDoorTie
import Derived.Test.YtghcnlbkghaaeaaDoorCards
import Derived.ProofKit
import Derived.OpenShut
import Derived.LaidMore
import Derived.Lay
import Derived.Lib.LaidTab
import Derived.SevenTiedAt
import Derived.Stop.Joined
set_option maxRecDepth 1000000
set_option maxHeartbeats 64000000
set_option linter.unusedVariables false
set_option linter.unusedSimpArgs false
set_option linter.constructorNameAsVariable false
namespace Go.Proofs
open Go.RowKit Go.Tw Go.Flow
attribute [local go_sem] Oper.semAt_some
def Q9d (t:Tree) (c:List Int) (wi s:Nat):Int:=if (s &&& wi) = wi /\ t.fails (evN s) = true then partOf c s else 0
def sumW {N:Nat} (t:Tree) (c:List Int) (wi:Nat):List (Fin N) -> Int
 | []=>0
 | x :: l=>Q9d t c wi x.1 + sumW t c wi l
theorem sumW_snoc {N:Nat} (t:Tree) (c:List Int) (wi:Nat) (x:Fin N):∀ l,sumW t c wi (l ++ [x]) = sumW t c wi l + Q9d t c wi x.1
 | []=>by simp [sumW]
 | y :: l=>by rw [List.cons_append,sumW,sumW,sumW_snoc t c wi x l,Int.add_assoc]
theorem X8y {c:List Int} (h:Small c) (t:Tree) (wi s:Nat):0 <= Q9d t c wi s /\ Q9d t c wi s <= 281474976710656:=by
 unfold Q9d
 split
 . exact Q4x h s (Nat.le_refl _)
 . omega
theorem X1q {N:Nat} {c:List Int} (h:Small c) (t:Tree) (wi:Nat):∀ l:List (Fin N),0 <= sumW t c wi l /\ sumW t c wi l <= l.length * 281474976710656
 | []=>by simp [sumW]
 | x :: l=>by
   have h1:=X8y h t wi x.1;have h2:=X1q h t wi l;rw [sumW,List.length_cons];have h3:((l.length + 1:Nat):Int) = (l.length:Int) + 1:=by omega
   rw [h3,Int.add_mul];omega
def Q2j (t:Tree) (c:List Int) (wi:Nat):Int:=sumW t c wi (List.finRange (2 ^ t.size))
theorem X2u (w:World) (fv gv:Value) (t:Tree) (c0 c:List Int) (wi:Nat) (hv:Valid t) (hn:X6f w fv gv t) (hc:Small c) (hlen:c.length = t.size) (hw:wi < 2 ^ 62) :
    Calls Tryd.prog 104 #[noV t c0 fv gv,chV c,.int .i64 wi] w fun e w'=>e = .returned (.int .i64 (Q2j t c wi)) /\ Ext w w':=by
 obtain ⟨A1,cap1,rfl,_,_,_⟩:=hn.fails.opened;obtain ⟨A2,cap2,rfl,_,_,_⟩:=hn.gates.opened;rw [Q1w] at hn ⊢;have HN:=Lib.hid hn;have HV:=Lib.hid hv;have HC:=Lib.hid hc;have HLEN:=Lib.hid hlen;have hsz:=hv.size;clear hn hv hc hlen;rw [X7z];unfold noV;refine (callsIn_wide (n:=9)).1 ?_;refine callsIn_of_wp_marks Tryd.func104 rfl trivial ?_ rfl;simp only [Tryd.ntmps104,List.size_toArray,List.length_cons,List.length_nil,Nat.reduceAdd,Nat.reduceSub,Array.replicate_succ,Array.replicate_zero,List.push_toArray,List.append_toArray,List.nil_append,List.cons_append]
 gi_wp2_with (refine ⟨trivial,?_⟩; gi_at_call 106; refine (callsIn_wide.2 (X0o _ t c0 A1 t.size cap1)).mono ?_; rintro e w' ⟨rfl,hce,hse,hxe⟩)
 have es0:(w.alloc (.cells (outA t.size (.slice A1 t.size cap1) c0 t.basics.length (.slice A2 t.gates.length cap2)) 131)).heap.size = w.heap.size + 1:=by simp
 have k0:=Blk.made w 131 (outA t.size (.slice A1 t.size cap1) c0 t.basics.length (.slice A2 t.gates.length cap2));have x0:=Ext.box w (.cells (outA t.size (.slice A1 t.size cap1) c0 t.basics.length (.slice A2 t.gates.length cap2)) 131);replace hxe:Ext ((((w.alloc (.cells (outA t.size (.slice A1 t.size cap1) c0 t.basics.length (.slice A2 t.gates.length cap2)) 131)).alloc (.cells (chA c) 126)).alloc (.cells #[.int .i64 wi] 3)).alloc (.cells #[.int .i64 0] 3)) w':=hxe;replace hce:w'.cell? ⟨((((w.alloc (.cells (outA t.size (.slice A1 t.size cap1) c0 t.basics.length (.slice A2 t.gates.length cap2)) 131)).alloc (.cells (chA c) 126)).alloc (.cells #[.int .i64 wi] 3)).alloc (.cells #[.int .i64 0] 3)).heap.size,0,none⟩ = some (.int .i64 t.size):=hce;replace hse:w'.heap.size = ((((w.alloc (.cells (outA t.size (.slice A1 t.size cap1) c0 t.basics.length (.slice A2 t.gates.length cap2)) 131)).alloc (.cells (chA c) 126)).alloc (.cells #[.int .i64 wi] 3)).alloc (.cells #[.int .i64 0] 3)).heap.size + 1:=hse;obtain ⟨X0,hX0⟩:∃ X,w.alloc (.cells (outA t.size (.slice A1 t.size cap1) c0 t.basics.length (.slice A2 t.gates.length cap2)) 131) = X:=⟨_,rfl⟩;rw [hX0] at hxe hce hse k0 x0 es0;have k1:=Blk.made X0 126 (chA c);have x1:=Ext.box X0 (.cells (chA c) 126);have es1:(X0.alloc (.cells (chA c) 126)).heap.size = X0.heap.size + 1:=by simp
 obtain ⟨X1,hX1⟩:∃ X,X0.alloc (.cells (chA c) 126) = X:=⟨_,rfl⟩;rw [hX1] at hxe hce hse k1 x1 es1;have k2:=Blk.made X1 3 #[.int .i64 wi];have x2:=Ext.box X1 (.cells #[.int .i64 wi] 3);have es2:(X1.alloc (.cells #[.int .i64 wi] 3)).heap.size = X1.heap.size + 1:=by simp
 obtain ⟨X2,hX2⟩:∃ X,X1.alloc (.cells #[.int .i64 wi] 3) = X:=⟨_,rfl⟩;rw [hX2] at hxe hce hse k2 x2 es2;have k3:=Blk.made X2 3 #[.int .i64 0];have x3:=Ext.box X2 (.cells #[.int .i64 0] 3);have es3:(X2.alloc (.cells #[.int .i64 0] 3)).heap.size = X2.heap.size + 1:=by simp
 obtain ⟨X3,hX3⟩:∃ X,X2.alloc (.cells #[.int .i64 0] 3) = X:=⟨_,rfl⟩;rw [hX3] at hxe hce hse k3 x3 es3;clear hX0 hX1 hX2 hX3;replace k0:=((k0.ext x1).ext x2).ext (x3.trans hxe);replace k1:=(k1.ext x2).ext (x3.trans hxe);replace k2:=k2.ext (x3.trans hxe);replace k3:=k3.ext hxe;have XW:Ext w w':=(((x0.trans x1).trans x2).trans x3).trans hxe;have e1:X0.heap.size = w.heap.size + 1:=es0;have e2:X1.heap.size = w.heap.size + 1 + 1:=by omega
 have e3:X2.heap.size = w.heap.size + 1 + 1 + 1:=by omega
 have e4:X3.heap.size = w.heap.size + 1 + 1 + 1 + 1:=by omega
 have e5:w'.heap.size = w.heap.size + 1 + 1 + 1 + 1 + 1:=by omega
 rw [e1] at k1;rw [e2] at k2;rw [e3] at k3;rw [e4] at hce;clear es0 es1 es2 es3 e1 e2 e3 e4 hse x0 x1 x2 x3 hxe;have HXW:=Lib.hid XW;clear XW;refine wpIn_rangeFunc_ownF (n:=9) rfl (by omega) (gf:=127) (lb:=#[.pointer (some ⟨w.heap.size + 1 + 1 + 1 + 1,0,none⟩)]) rfl trivial (enters_of Tryd.func127 (by kernel_rfl) rfl)
  (Q8p _ (w.heap.size + 1 + 1 + 1 + 1) (2 ^ t.size) w' t rfl hsz hce) (fun _ _=>trivial) (fun _ _ _ _ _ _ _ _=>trivial) (Below.refl _ _) (fun _=>rfl)
  (fun pre W=>Blk W (w.heap.size + 1 + 1 + 1) 3 #[.int .i64 (sumW t c wi pre)] /\ Below (w.heap.size + 1 + 1 + 1) w' W)
  (fun _ _ _=>False)
  (OwnFrom.and (Own.from (Blk.own _ _ _) _) (ownFrom_below (by omega) (by omega)))
  (fun _ _ _ _ _ hs _ _=>hs)
  ⟨k3,Below.refl _ _⟩
  (fun x=>{ tmps:=#[noV t c0 (.slice A1 t.size cap1) (.slice A2 t.gates.length cap2),.agg (chA c),.int .i64 wi,.pointer (some ⟨w.heap.size,0,none⟩),.pointer (some ⟨w.heap.size + 1,0,none⟩),.pointer (some ⟨w.heap.size + 1 + 1,0,none⟩),.int .i64 0,.pointer (some ⟨w.heap.size + 1 + 1 + 1,0,none⟩),.int .i64 x.1,.pointer (some ⟨w.heap.size,0,none⟩),evV t c0 (.slice A1 t.size cap1),.func (.func 127) #[] #[.pointer (some ⟨w.heap.size + 1 + 1 + 1 + 1,0,none⟩)],.int .i64 x.1,undef,undef,undef,undef,undef,undef,undef,undef,undef,undef,undef,undef,undef,undef,undef,undef,undef],defers:=[] }) ?assign ?body ?done ?stop
 case assign =>
  intro l x W K hK
  gi_wp2
  exact hK
 case stop =>
  rintro D cc pre W _ _ h _;exact h.elim
 case done =>
  rintro D ys W hD rfl ⟨hb,hB⟩ hK;have hcell:=hb.cell 0
  gi_wp2
  refine ⟨by simp,.inl ⟨_,_,rfl,run_takeDeferred hK,?_⟩⟩
  exact ⟨_,results_tmp rfl _ _ _,rfl,Below.trans (Below.trans HXW.out (hB.mono (by omega))) (belowK_b (w:=w) (Nat.le_refl _) W D _ _ (by omega) hK rfl rfl)⟩
 case body =>
  rintro l pre x W ⟨hb,hB⟩ hpl;obtain ⟨x,hxN⟩:=x;dsimp only;have h12:(2:Nat) ^ t.size <= 2 ^ 12:=Nat.pow_le_pow_right (by omega) hsz
  have b0:=k0.below hB (by omega)
  have b1:=k1.below hB (by omega)
  have b2:=k2.below hB (by omega)
  have c2:W.cell? ⟨w.heap.size + 1 + 1,0,none⟩ = some (.int .i64 wi):=b2.cell 0;have c3:W.cell? ⟨w.heap.size + 1 + 1 + 1,0,none⟩ = some (.int .i64 (sumW t c wi pre)):=hb.cell 0;have f3:W.frozen? ⟨w.heap.size + 1 + 1 + 1,0,none⟩ = false:=hb.frozen 0;have hnW:X6f W (.slice A1 t.size cap1) (.slice A2 t.gates.length cap2) t:=HN.out.ext (Below.trans HXW.out (hB.mono (by omega)))
  have hs1:=X1q HC.out t wi pre;have hs2:=Q4x HC.out x (Nat.le_refl c.length);have han:=X9p (a:=x) (b:=wi) (by omega) hw
  have hsn:=sumW_snoc t c wi ⟨x,hxN⟩ pre;have HSN:Hid (sumW t c wi (pre ++ [⟨x,hxN⟩]) = sumW t c wi pre + (if (x &&& wi) = wi /\ t.fails (evN x) = true then partOf c x else 0)):=Lib.hid (by rw [hsn,Q9d])
  clear hsn;obtain ⟨m,hm⟩:∃ m,x &&& wi = m:=⟨_,rfl⟩;obtain ⟨S,hS⟩:∃ S,sumW t c wi pre = S:=⟨_,rfl⟩;obtain ⟨p,hp⟩:∃ p,partOf c x = p:=⟨_,rfl⟩;have hp':partTo c x c.length = p:=hp;rw [hp'] at hs2;rw [hS] at hs1 c3 hb;rw [hm] at han HSN;rw [hS,hp] at HSN;have hw7:IntKind.i64.wrap (S + p) = S + p:=wrap_in (by omega) (by omega)
  have HC':=Lib.hid hb;have HPA:Hid (∀ w',Calls Tryd.prog 126 #[noV t c0 (.slice A1 t.size cap1) (.slice A2 t.gates.length cap2),.int .i64 x,chV c] w' fun e w''=>e = .returned (.int .i64 p) /\ Ext w' w''):=by
   exact (by intro w'; rw [<- hp]; exact X8z w' t c c0 _ _ _ _ _ _ x HC.out HLEN.out (by omega):∀ w',Calls Tryd.prog 126 #[noV t c0 (.slice A1 t.size cap1) (.slice A2 t.gates.length cap2),.int .i64 x,chV c] w' fun e w''=>e = .returned (.int .i64 p) /\ Ext w' w'')
  have HB:=Lib.hid hB;have HNW:=Lib.hid hnW;have HB0:=Lib.hid b0;have HB1:=Lib.hid b1;clear hS hp hp' hs1 hs2 hm hnW hb hB b0 b1 b2 h12;have hlW:w.heap.size + 1 + 1 + 1 < W.heap.size:=World.block_lt_of_cell? W _ c3
  by_cases hmw:m = wi
  . subst hmw
    cases hfa:t.fails (evN x) with
    | false =>
      rw [hfa] at HSN
      gi_wp2_with (first | (refine (show Fence.wide.fn _ /\ _ from ⟨trivial,?_⟩)) | (refine Q2t (by go_simp) _ _ rfl Tryd.Q2n Tryd.Q1i rfl HB0.out rfl ?_) | (gi_at_call 66; refine (CallsIn.inRound l (callsIn_wide.2 (Q9k _ _ _ t c0 x HV.out hxN HNW.out))).mono ?_; rw [hfa]; rintro e w9 ⟨rfl,hx9⟩))
      exact ⟨Q2i hx9,trivial,by rw [HSN.out,if_neg (by simp),Int.add_zero]; exact HC'.out.ext hx9,HB.out.trans (hx9.mono (by omega))⟩
    | true =>
      rw [hfa] at HSN
      gi_wp2_with (first | (refine (show Fence.wide.fn _ /\ _ from ⟨trivial,?_⟩)) | (refine Q2t (by go_simp) _ _ rfl Tryd.Q2n Tryd.Q1i rfl HB0.out rfl ?_) | (gi_at_call 66; refine (CallsIn.inRound l (callsIn_wide.2 (Q9k _ _ _ t c0 x HV.out hxN HNW.out))).mono ?_; rw [hfa]; rintro e w9 ⟨rfl,hx9⟩))
      replace c3:=hx9.cell c3;have f9:=(hx9.frozen (p:=⟨w.heap.size + 1 + 1 + 1,0,none⟩) hlW).trans f3;have h9:=Nat.lt_of_lt_of_le hlW hx9.size;have hd9:=(Ext.refl w9).drew;clear c2 f3;refine Flow.X2f [.w,.w,.p,.w,.w,.p,.last] [0,1,2,3,4,5,6] [[],[],[],[],[1,2,3],[0,1,2,3,4],[0,1,2,3,4,5]] [6]
       [.c 0 (.int .i64 S),.c 1 (noV t c0 (.slice A1 t.size cap1) (.slice A2 t.gates.length cap2)),.c 2 (.int .i64 x),.c 3 (chV c),.c 4 (.int .i64 p),.c 5 (.int .i64 (S + p)),.none]
       [fun v w1 w'=>Blk w' (w.heap.size + 1 + 1 + 1) 3 #[.int .i64 (S + p)] /\ Below (w.heap.size + 1 + 1 + 1) w1 w' /\ KeepsOthers w1 w'] (by kernel_rfl) (by kernel_rfl) rfl (by kernel_rfl) ⟨?g0,?g1,?g2,?g3,?g4,?g5,?g6,trivial⟩ ?post
      case g0=>
       intro v w1 hx;have c3:=hx.cell c3;intro K hK;go_simp;exact hK _ _ (Ext.refl _) rfl
      case g1=>
       intro v w1 hx;have c3:=hx.cell c3;intro K hK;exact Q1c _ _ rfl Tryd.Q2n Tryd.Q1i (by go_simp) ((HB0.out.ext hx9).ext (hd9.trans hx)) rfl (hK _ _ (Ext.refl _) rfl)
      case g2=>
       intro v w1 hx;refine ⟨_,fun w=>?_,rfl⟩;go_simp
      case g3=>
       intro v w1 hx;have c3:=hx.cell c3;intro K hK;exact Q1c _ _ rfl Tryd.Y1e Tryd.X6h (by go_simp) ((HB1.out.ext hx9).ext (hd9.trans hx)) rfl (hK _ _ (Ext.refl _) rfl)
      case g4=>
       intro v w1 hx;(repeat intro (zq:v _ = _));have c3:=hx.cell c3;intro K hK;go_simp;refine Q0b (HPA.out w1) ?_;rintro e w2 ⟨rfl,hx2⟩;exact ⟨_,rfl,hK _ _ hx2 rfl⟩
      case g5=>
       intro v w1 hx;(repeat intro (zq:v _ = _));refine ⟨_,fun w=>?_,rfl⟩;go_simp
      case g6=>
       intro v w1 hx;(repeat intro (zq:v _ = _));intro wl hT;obtain rfl:wl = w1:=hT;intro bb hbb;subst hbb;have c3:=hx.cell c3;intro K hK;have g0:=(hx.frozen (p:=⟨w.heap.size + 1 + 1 + 1,0,none⟩) h9).trans f9;have gb:=(HC'.out.ext hx9).ext (hd9.trans hx);go_simp;exact hK _ _ ⟨gb.set 0 _,(Below.refl _ wl).setCell (p:=⟨w.heap.size + 1 + 1 + 1,0,none⟩) (Nat.le_refl _) _,KeepsOthers.setCell _ _ _⟩
      case post =>
       intro v w1 hx;(iterate 6 intro (zq:v _ = _));intro w2 hE;replace hE:(fun v w1 w'=>Blk w' (w.heap.size + 1 + 1 + 1) 3 #[.int .i64 (S + p)] /\ Below (w.heap.size + 1 + 1 + 1) w1 w' /\ KeepsOthers w1 w') v w1 w2:=hE;simp only [Flow.acts,Act.put];go_simp;obtain ⟨hb2,hl2,hk2⟩:=hE
       gi_wp2
       exact ⟨((Q2i hx9).trans (Q2i (hd9.trans hx))).trans hk2,trivial,by rw [HSN.out,if_pos ⟨trivial,trivial⟩]; exact hb2,(HB.out.trans ((hx9.trans (hd9.trans hx)).mono (by omega))).trans hl2⟩
  . have hmw':¬ (m:Int) = (wi:Int):=by omega
    have hbe:((m:Int) == (wi:Int)) = false:=beq_eq_false_iff_ne.2 hmw'
    gi_wp2_with (refine (show Fence.wide.fn _ /\ _ from ⟨trivial,?_⟩))
    exact ⟨KeepsOthers.refl _,trivial,by rw [HSN.out,if_neg (fun h=>hmw h.1),Int.add_zero]; exact HC'.out,HB.out⟩
end Go.Proofs
namespace Go.Proofs
open Go.Shelf
def Tryd.X2q:Go.Shelf.Ren:=⟨fun | 125=>130 | 128=>152 | 129=>153 | n=>n,fun | 46=>199 | 3=>3 | 51=>208 | 53=>210 | 4=>4 | 5=>5 | 9=>9 | n=>n,fun | n=>n⟩
theorem Tryd.lays125:Go.Proofs.Lays.n125 Tryd.prog Tryd.X2q:={
 mixed:=by kernel_rfl
 f125:=Tryd.func130.trans (congrArg some (by kernel_rfl))
 f128:=Tryd.func152.trans (congrArg some (by kernel_rfl))
 f129:=Tryd.func153.trans (congrArg some (by kernel_rfl))
 t3:=Tryd.underlying3
 a3:=Tryd.isAgg3
 z3:=Tryd.sizeOf3
 v3:=Tryd.zeroValue3
 t4:=Tryd.underlying4
 a4:=Tryd.isAgg4
 z4:=Tryd.sizeOf4
 v4:=Tryd.zeroValue4
 t5:=Tryd.underlying5
 a5:=Tryd.isAgg5
 z5:=Tryd.sizeOf5
 v5:=Tryd.zeroValue5
 t9:=Tryd.underlying9
 a9:=Tryd.isAgg9
 z9:=Tryd.sizeOf9
 v9:=Tryd.zeroValue9
 t46:=Tryd.underlying199
 a46:=Tryd.isAgg199
 z46:=Tryd.sizeOf199
 v46:=Tryd.zeroValue199
 t51:=Tryd.underlying208
 a51:=Tryd.isAgg208
 z51:=Tryd.sizeOf208
 v51:=Tryd.zeroValue208
 t53:=Tryd.underlying210
 a53:=Tryd.isAgg210
 z53:=Tryd.sizeOf210
 v53:=Tryd.zeroValue210 }
theorem Tryd.bits_Len (x:Int) (w:World) (h0:0 <= x) (h1:x <= 18446744073709551615) :
    Calls Tryd.prog 130 #[.int .u64 x] w fun e w'=>e = .returned (.int .i64 (Lib.bitLen x.toNat)) /\ w' = w:=Any.bits_Len Tryd.lays125 x w h0 h1
open Go.RowKit in
open Go.RowKit in
open Go.Lib in
open Go.Lib in
open Go.Lib in
open Go.Lib in
open Go.Lib in
open Go.Lib in
open Go.Lib in
open Go.Lib in
def Tryd.Q9y:Go.Shelf.Ren:=⟨fun | 15=>93 | n=>n,fun | 22=>32 | 3=>3 | 4=>4 | n=>n,fun | n=>n⟩
theorem Tryd.laysNm215:Go.Proofs.Lays2.n15 Tryd.prog Tryd.Q9y:={
 mixed:=by kernel_rfl
 f15:=Tryd.func93.trans (congrArg some (by kernel_rfl))
 t3:=Tryd.underlying3
 a3:=Tryd.isAgg3
 z3:=Tryd.sizeOf3
 v3:=Tryd.zeroValue3
 t4:=Tryd.underlying4
 a4:=Tryd.isAgg4
 z4:=Tryd.sizeOf4
 v4:=Tryd.zeroValue4
 t22:=Tryd.underlying32
 a22:=Tryd.isAgg32
 z22:=Tryd.sizeOf32
 v22:=Tryd.zeroValue32
 i3:=by kernel_rfl }
open Go.RowKit Go.Lib in
theorem Tryd.slices_Clone_int (b off n c:Nat) (zs:List Int) (w:World) (hz:n <= zs.length) (hbig:n * 8 <= 140737488355328) (hc:∀ j,j < zs.length -> w.cell? ⟨b,off + j,none⟩ = some (.int .i64 (zs.getD j 0))) :
    Calls Tryd.prog 93 #[.slice (some ⟨b,off,none⟩) n c] w fun e w'=>∃ v',e = .returned v' /\ w'.ownsRow w.heap.size 3 1 v' n ((zs.take n).map (Value.int .i64)) /\ v' ≠ .slice none 0 0 /\ Below w.heap.size w w':=Any.slices_Clone_int Tryd.laysNm215 b off n c zs w hz hbig hc
open Go.RowKit Go.Lib in
theorem Tryd.slices_Clone_int_nil (n c:Nat) (w:World) :
    Calls Tryd.prog 93 #[.slice none n c] w fun e w'=>e = .returned (.slice none 0 0) /\ w' = w:=Any.slices_Clone_int_nil Tryd.laysNm215 n c w
open Go.RowKit Go.Lib in
theorem Tryd.slices_Clone_int_zero (a:Addr) (c:Nat) (w:World) :
    Calls Tryd.prog 93 #[.slice (some a) 0 c] w fun e w'=>∃ v',e = .returned v' /\ w'.ownsRow w.heap.size 3 1 v' 0 [] /\ v' ≠ .slice none 0 0 /\ Below w.heap.size w w':=Any.slices_Clone_int_zero Tryd.laysNm215 a c w
open Go.RowKit Go.Lib in
open Go.RowKit Go.Lib in
open Go.RowKit Go.Lib in
def Tryd.X2z:Go.Shelf.Ren:=⟨fun | 6=>108 | 15=>130 | 14=>129 | 28=>152 | 29=>153 | 20=>144 | 21=>145 | 22=>146 | 23=>147 | 24=>148 | 25=>149 | 26=>150 | 27=>151 | 46=>155 | 47=>156 | 48=>157 | 49=>158 | 50=>159 | 57=>161 | n=>n,fun | 22=>178 | 24=>182 | 25=>185 | 3=>3 | 39=>199 | 0=>0 | 53=>208 | 55=>210 | 4=>4 | 46=>213 | 45=>212 | 50=>217 | 5=>5 | 9=>9 | 66=>221 | 70=>225 | 76=>227 | 77=>228 | n=>n,fun | n=>n⟩
theorem Tryd.sortSet:Go.Proofs.SlLaysF.n6 Tryd.prog Tryd.X2z:={
 mixed:=by kernel_rfl
 f6:=⟨Tryd.f108.name,by decide,Tryd.func108.trans (congrArg some (by kernel_rfl))⟩
 f14:=⟨Tryd.f129.name,by decide,Tryd.func129.trans (congrArg some (by kernel_rfl))⟩
 f15:=Tryd.func130.trans (congrArg some (by kernel_rfl))
 f20:=⟨Tryd.f144.name,by decide,Tryd.func144.trans (congrArg some (by kernel_rfl))⟩
 f21:=⟨Tryd.f145.name,by decide,Tryd.func145.trans (congrArg some (by kernel_rfl))⟩
 f22:=⟨Tryd.f146.name,by decide,Tryd.func146.trans (congrArg some (by kernel_rfl))⟩
 f23:=⟨Tryd.f147.name,by decide,Tryd.func147.trans (congrArg some (by kernel_rfl))⟩
 f24:=⟨Tryd.f148.name,by decide,Tryd.func148.trans (congrArg some (by kernel_rfl))⟩
 f25:=⟨Tryd.f149.name,by decide,Tryd.func149.trans (congrArg some (by kernel_rfl))⟩
 f26:=⟨Tryd.f150.name,by decide,Tryd.func150.trans (congrArg some (by kernel_rfl))⟩
 f27:=⟨Tryd.f151.name,by decide,Tryd.func151.trans (congrArg some (by kernel_rfl))⟩
 f28:=Tryd.func152.trans (congrArg some (by kernel_rfl))
 f29:=Tryd.func153.trans (congrArg some (by kernel_rfl))
 f46:=⟨Tryd.f155.name,by decide,Tryd.func155.trans (congrArg some (by kernel_rfl))⟩
 f47:=Tryd.func156.trans (congrArg some (by kernel_rfl))
 f48:=Tryd.func157.trans (congrArg some (by kernel_rfl))
 f49:=⟨Tryd.f158.name,by decide,Tryd.func158.trans (congrArg some (by kernel_rfl))⟩
 f50:=⟨Tryd.f159.name,by decide,Tryd.func159.trans (congrArg some (by kernel_rfl))⟩
 f57:=⟨Tryd.f161.name,by decide,Tryd.func161.trans (congrArg some (by kernel_rfl))⟩
 t0:=Tryd.underlying0
 a0:=Tryd.isAgg0
 z0:=Tryd.sizeOf0
 v0:=Tryd.zeroValue0
 t3:=Tryd.underlying3
 a3:=Tryd.isAgg3
 z3:=Tryd.sizeOf3
 v3:=Tryd.zeroValue3
 t4:=Tryd.underlying4
 a4:=Tryd.isAgg4
 z4:=Tryd.sizeOf4
 v4:=Tryd.zeroValue4
 t5:=Tryd.underlying5
 a5:=Tryd.isAgg5
 z5:=Tryd.sizeOf5
 v5:=Tryd.zeroValue5
 t9:=Tryd.underlying9
 a9:=Tryd.isAgg9
 z9:=Tryd.sizeOf9
 v9:=Tryd.zeroValue9
 t22:=Tryd.underlying178
 a22:=Tryd.isAgg178
 z22:=Tryd.sizeOf178
 v22:=Tryd.zeroValue178
 a24:=Tryd.isAgg182
 z24:=Tryd.sizeOf182
 t25:=Tryd.underlying185
 a25:=Tryd.isAgg185
 z25:=Tryd.sizeOf185
 v25:=Tryd.zeroValue185
 t39:=Tryd.underlying199
 a39:=Tryd.isAgg199
 z39:=Tryd.sizeOf199
 v39:=Tryd.zeroValue199
 t45:=Tryd.underlying212
 a45:=Tryd.isAgg212
 z45:=Tryd.sizeOf212
 v45:=Tryd.zeroValue212
 t46:=Tryd.underlying213
 a46:=Tryd.isAgg213
 z46:=Tryd.sizeOf213
 v46:=Tryd.zeroValue213
 t50:=Tryd.underlying217
 a50:=Tryd.isAgg217
 z50:=Tryd.sizeOf217
 v50:=Tryd.zeroValue217
 t53:=Tryd.underlying208
 a53:=Tryd.isAgg208
 z53:=Tryd.sizeOf208
 v53:=Tryd.zeroValue208
 t55:=Tryd.underlying210
 a55:=Tryd.isAgg210
 z55:=Tryd.sizeOf210
 v55:=Tryd.zeroValue210
 t66:=Tryd.underlying221
 a66:=Tryd.isAgg221
 z66:=Tryd.sizeOf221
 v66:=Tryd.zeroValue221
 t70:=Tryd.underlying225
 a70:=Tryd.isAgg225
 z70:=Tryd.sizeOf225
 v70:=Tryd.zeroValue225
 t76:=Tryd.underlying227
 a76:=Tryd.isAgg227
 z76:=Tryd.sizeOf227
 v76:=Tryd.zeroValue227
 t77:=Tryd.underlying228
 a77:=Tryd.isAgg228
 z77:=Tryd.sizeOf228
 v77:=Tryd.zeroValue228 }
def Tryd.X1u:Go.Shelf.Ren:=⟨fun | 27=>128 | 28=>142 | 29=>143 | n=>n,fun | 25=>199 | 3=>3 | 27=>208 | 22=>210 | 4=>4 | 53=>219 | 0=>0 | 5=>5 | 54=>220 | n=>n,fun | 0=>1 | 1=>2 | n=>n⟩
theorem Tryd.lays27t:Go.Proofs.Lays7.n27 Tryd.prog Tryd.X1u:={
 mixed:=by kernel_rfl
 f27:=Tryd.func128.trans (congrArg some (by kernel_rfl))
 f28:=Tryd.func142.trans (congrArg some (by kernel_rfl))
 f29:=Tryd.func143.trans (congrArg some (by kernel_rfl))
 t0:=Tryd.underlying0
 a0:=Tryd.isAgg0
 z0:=Tryd.sizeOf0
 v0:=Tryd.zeroValue0
 i0:=by kernel_rfl
 t3:=Tryd.underlying3
 a3:=Tryd.isAgg3
 z3:=Tryd.sizeOf3
 v3:=Tryd.zeroValue3
 i3:=by kernel_rfl
 t4:=Tryd.underlying4
 a4:=Tryd.isAgg4
 z4:=Tryd.sizeOf4
 v4:=Tryd.zeroValue4
 i4:=by kernel_rfl
 t5:=Tryd.underlying5
 a5:=Tryd.isAgg5
 z5:=Tryd.sizeOf5
 v5:=Tryd.zeroValue5
 i5:=by kernel_rfl
 t22:=Tryd.underlying210
 a22:=Tryd.isAgg210
 z22:=Tryd.sizeOf210
 v22:=Tryd.zeroValue210
 i22:=by kernel_rfl
 t25:=Tryd.underlying199
 a25:=Tryd.isAgg199
 z25:=Tryd.sizeOf199
 v25:=Tryd.zeroValue199
 i25:=by kernel_rfl
 t27:=Tryd.underlying208
 a27:=Tryd.isAgg208
 z27:=Tryd.sizeOf208
 v27:=Tryd.zeroValue208
 i27:=by kernel_rfl
 t53:=Tryd.underlying219
 a53:=Tryd.isAgg219
 z53:=Tryd.sizeOf219
 v53:=Tryd.zeroValue219
 i53:=by kernel_rfl
 t54:=Tryd.underlying220
 a54:=Tryd.isAgg220
 z54:=Tryd.sizeOf220
 g0:=by kernel_rfl
 g1:=by kernel_rfl }
end Go.Proofs
namespace Go.Proofs
open Go.RowKit Go.Tw Go.Flow
def Tab (w:World):Prop:=TabAt 2 Lib.deBruijn64tab w
theorem Tab.ext {w w':World} (h:Tab w) (hx:Ext w w'):Tab w':=fun j hj=>hx.cell (h j hj)
theorem Y0g {a:Nat} (h0:a ≠ 0) (h:a < 65536):∃ k,Lib.ctz 64 a = k /\ k < 16 /\ a.testBit k = true /\ ∀ j,j < k -> a.testBit j = false:=by
 have h1:2 ^ 16 = 65536:=rfl;obtain ⟨m,hm,hk⟩:=Lib.ctzFrom_spec 64 a (by omega) (Nat.lt_of_lt_of_le h (by decide))
 have e:Lib.ctz 64 a = Lib.ctzFrom 64 a:=by unfold Lib.ctz; rw [if_neg h0]
 rw [<- e] at hm hk;obtain ⟨k,hkk⟩:∃ k,Lib.ctz 64 a = k:=⟨_,rfl⟩;rw [hkk] at hm hk;have hb:a.testBit k = true:=by rw [hm,Nat.testBit_two_pow_mul]; simp
 refine ⟨k,hkk,?_,hb,fun j hj=>?_⟩
 . apply Nat.lt_of_not_le
   intro hge;rw [Nat.testBit_lt_two_pow (Nat.lt_of_lt_of_le (by omega) (Nat.pow_le_pow_right (n:=2) (by omega) hge))] at hb
   cases hb
 . rw [hm,Nat.testBit_two_pow_mul]
   simp;omega
theorem Q5w (p:Nat -> Bool) {k n:Nat} (h:k < n):(List.range n).filter p = (List.range k).filter p ++ ((if p k then [k] else []) ++ (List.range' (k + 1) (n - k - 1)).filter p):=by
 have e:List.range n = List.range k ++ (k :: List.range' (k + 1) (n - k - 1)):=by
  rw [List.range_eq_range',List.range_eq_range'];have h1:n = k + (1 + (n - k - 1)):=by omega
  have h2:k :: List.range' (k + 1) (n - k - 1) = List.range' k (1 + (n - k - 1)):=by rw [Nat.add_comm 1,List.range'_succ]
  rw [h2]
  conv=>lhs; rw [h1]
  rw [<- List.range'_append];simp
 rw [e,List.filter_append,List.filter_cons]
 split <;> simp
theorem X5x {a k:Nat} (hk:k < 16) (hb:a.testBit k = true) (hl:∀ j,j < k -> a.testBit j = false):bitsOf a = (k:Int) :: bitsOf (Q1g a (2 ^ k)):=by
 unfold bitsOf;rw [Q5w _ hk,Q5w (fun i=>(Q1g a (2 ^ k)).testBit i) hk];have e1:(List.range k).filter (a.testBit ·) = []:=by
  rw [List.filter_eq_nil_iff]; intro j hj; rw [hl j (List.mem_range.1 hj)]; simp
 have e2:(List.range k).filter (fun i=>(Q1g a (2 ^ k)).testBit i) = []:=by
  rw [List.filter_eq_nil_iff]; intro j hj; simp only [Q1t,hl j (List.mem_range.1 hj)]; simp
 have e3:(Q1g a (2 ^ k)).testBit k = false:=by rw [Q1t,Nat.testBit_two_pow_self]; simp
 have e4:(List.range' (k + 1) (16 - k - 1)).filter (a.testBit ·) = (List.range' (k + 1) (16 - k - 1)).filter (fun i=>(Q1g a (2 ^ k)).testBit i):=by
  apply List.filter_congr
  intro j hj;have:=List.mem_range'_1.1 hj;rw [Q1t,Nat.testBit_two_pow_of_ne (by omega)]
  simp
 rw [e1,e2,e4];simp [hb,e3]
theorem X6z (a b:Nat):Q1g a b <= a:=by
 have h:Q1g a b &&& a = Q1g a b:=by
  apply Nat.eq_of_testBit_eq; intro i
  rw [Nat.testBit_and,Q1t];cases a.testBit i <;> simp
 rw [<- h];exact Nat.and_le_right
theorem X5p {a k:Nat} (hb:a.testBit k = true):Q1g a (2 ^ k) < a:=by
 refine Nat.lt_of_le_of_ne (X6z a _) fun e=>?_;have:=congrArg (fun x=>x.testBit k) e;simp only [Q1t,hb,Nat.testBit_two_pow_self] at this;cases this
theorem X2c:bitsOf 0 = []:=rfl
theorem Q8x (s:Nat):(bitsOf s).length <= 16:=by
 unfold bitsOf;rw [List.length_map];exact Nat.le_trans (List.length_filter_le _ _) (by simp)
theorem Y2j (a:Nat) (w:World) (h:a < 65536) (hT:Tab w):Calls Tryd.prog 128 #[.int .u64 a] w fun e w'=>e = .returned (.int .i64 (Lib.ctz 64 a)) /\ w' = w :=
 Any7.bits_TrailingZeros Tryd.lays27t a (by omega) w (fun _=>hT)
theorem X3b (w:World) (s:Nat) (hs:s < 65536) (hT:Tab w) :
    Calls Tryd.prog 107 #[.int .i64 s] w fun e w'=>∃ u,e = .returned u /\ Q0f w' w.heap.size 3 (.int .i64) u (bitsOf s) /\ Ext w w':=by
 obtain ⟨i0,hi,hz0,hz1,hz2⟩:=info_parts Tryd.info3;have HT:=Lib.hid hT;have hbs:=Q8x s;clear hT;go_enter Tryd.func107,Tryd.ntmps107;go_wp2
 go_loopw [0,3,4] (fun q u _ wr=>∃ (a:Nat) (l:List Int),q = .int .i64 a /\ a < 65536 /\ l ++ bitsOf a = bitsOf s /\ Q0f wr w.heap.size 3 (.int .i64) u l /\ Ext w wr) (fun q _ _ _=>(intOf q).toNat)
 case atStart=>exact ⟨s,[],rfl,hs,rfl,Q0f.nil _ _ _ _,Ext.refl _⟩
 case round =>
  obtain ⟨a,l,rfl,ha,hla,hown,hx⟩:=hrel
  by_cases hz:a = 0
  . subst hz
    have HL:Hid (l = bitsOf s):=by rw [X2c,List.append_nil] at hla; exact hla
    clear hla;go_wp2;go_ret;exact ⟨_,rfl,by rw [<- HL.out]; exact hown,hx⟩
  . obtain ⟨k,hck,hk,hb,hl⟩:=Y0g hz ha
    have hd:=X5x hk hb hl;have hlt:=X5p hb;have hcl:=Q3z (n:=16) (2 ^ k) (show a < 2 ^ 16 by omega)
    have hp:=X6k (n:=k) (by omega)
    have hp2:(2:Nat) ^ k < 2 ^ 62:=Nat.pow_lt_pow_right (by omega) (by omega)
    have han:=X3x (a:=a) (b:=2 ^ k) (by omega) hp2
    have hlen:l.length <= 16:=by
     have:=congrArg List.length hla;rw [List.length_append] at this;omega
    rw [hd] at hla;have htz:∀ w',Ext w w' -> Calls Tryd.prog 128 #[.int .u64 a] w' fun e w''=>e = .returned (.int .i64 k) /\ w'' = w':=by
     intro w' hx';have:=Y2j a w' ha (HT.out.ext hx');rw [hck] at this;exact this
    have HTZ:=Lib.hid htz;have hcv:IntKind.u64.wrap (a:Int) = (a:Int):=by unfold IntKind.wrap; simp only [IntKind.signed,IntKind.bits]; simp; omega
    have hne:(((a:Nat):Int) != 0) = true:=by simp; omega
    obtain ⟨Z,hZ⟩:∃ Z,2 ^ k = Z:=⟨_,rfl⟩;obtain ⟨Y,hY⟩:∃ Y,Q1g a Z = Y:=⟨_,rfl⟩;have hk62:(k:Int) < 64:=by omega
    rw [hZ] at hp hla han hlt hcl;rw [hY] at hla han hlt hcl;have HLA:=Lib.hid hla;clear htz hck hb hl hd hla hZ hY hp2 hbs;go_wp2_with (first | (go_at_call 128; refine (HTZ.out _ hx).mono ?_; rintro e w9 ⟨rfl,rfl⟩) | (at_builtin; refine wpList_append_own _ rfl _ _ 182 rfl (w.heap.size) 3 i0 (.int .i64 0) 1 8 Tryd.underlying182 hi hz0 hz1 hz2 rfl (by decide) _ _ _ rfl (World.ownsRow.alloc hown _) ⟨w9.heap.size,0,none⟩ 1 1 [.int .i64 k] rfl rfl ?_ ?_ ?_ ?_ ?_ ?_; exact Q3p _ _ _; (focus (simp [Value.oneCell'])); (focus (unfold maxLen; omega)); (focus omega); (focus (have:=hx.size; simp at this ⊢; omega)); intro v' w1 hown' hgrow _))
    have hx':=Q1z hx hown (Nat.le_refl _) hgrow;go_wp2;go_roundw
    case rel=>exact ⟨Y,l ++ [(k:Int)],by go_num,by omega,by rw [List.append_assoc]; exact HLA.out,Q0f.snoc hown',hx'⟩
    case measure=>simp [intOf]; omega
end Go.Proofs
namespace Go.Proofs.YtghcnlbkghaaeaaDoor
open Go.ChangeShapes Go.WideShapes Go.ChangeAt Go.RowKit Go.Tw
theorem own:ownKnob Tryd.prog.godebug = none:=by kernel_rfl
theorem laidOut:laidOutB Tryd.prog = true:=by kernel_rfl
def X4z:List (String × DataW Unit):=Rows.topPilotVoteRow.laid
theorem X7q:(Rows.laid_math_bits_deBruijn64tab:DataW Unit) = Lib.tabData .u8 (List.map (fun n:Nat=>(n:Int)) Lib.deBruijn64tab):=by kernel_rfl
theorem X1t {W:World} (h:laidMetH Tryd.prog X4z W):Tab W:=by
 rw [MakeChecks.laidMetH_plain _ _ _ (by kernel_rfl)] at h
 obtain ⟨ps,⟨g0,t0,cs0,f0,p0,q0,hg0,ht0,hv0,hd0,⟨g1,t1,cs1,f1,p1,q1,hg1,ht1,hv1,hd1,_⟩,_⟩,_,_⟩:=h;obtain rfl:=Option.some.inj ((show Tryd.prog.globalNamed (X4z[1]?.map (·.1)).get! = some 2 by kernel_rfl).symm.trans hg1)
 obtain ⟨t,ht⟩:∃ t,(Tryd.prog.globals[2]?).map (·.type) = some t:=⟨_,ht1⟩;obtain rfl:=Option.some.inj (ht.symm.trans ht1);have ht2:(Tryd.prog.globals[2]?).map (·.type) = some 220:=by kernel_rfl
 obtain rfl:=Option.some.inj (ht2.symm.trans ht);rw [X7q] at hd1;have hu8:Tryd.prog.cellsOf 5 = 1:=by kernel_rfl
 have hc64:Tryd.prog.cellsOf 220 = 64:=by kernel_rfl
 have hcs:=Lib.cells_of_tab Tryd.underlying220 Tryd.underlying5 hu8 hc64 hd1;intro j hj;have:=World.var?_cell hg1 hv1 j;rw [this,<- Array.getElem?_toList,hcs];simp [hj]
theorem X8i {n:Int} (h:(Lit.int .u8 n).wf = true):∃ k:Nat,k < 256 /\ n = (k:Int):=by
 unfold Lit.wf at h;rw [Bool.and_eq_true,decide_eq_true_eq,decide_eq_true_eq] at h;have h1:IntKind.min .u8 = 0:=by decide
 have h2:IntKind.max .u8 = 255:=by decide
 rw [h1,h2] at h;exact ⟨n.toNat,by omega,by omega⟩
end Go.Proofs.YtghcnlbkghaaeaaDoor
