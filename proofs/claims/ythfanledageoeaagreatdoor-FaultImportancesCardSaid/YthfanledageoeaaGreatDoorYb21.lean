/- Contract: the sum of the products over the cut sets that have some events. DERIVED: THE SHELF's CONTRACTS AT THIS DUMP, IN PLAIN WORDS (tools/lay-plain.mjs out of 'TryzShelf.lean', which tools/lay-shelf.mjs wrote): THE SAME DECLARATIONS UNDER THE SAME NAMES: 'import', 'namespace', 'open', 'def', 'theorem' AND NOTHING ELSE: no command of the shelf's: FOR A HAND-IN. Each laying: the table of numbers ('.._ren') and one theorem, a field a fact of the dump's own or the kernel's comparison; each contract: ONE APPLICATION. -/
import Derived.Test.YthfanledageoeaaGreatDoorYb20
import Derived.Ground.Names7Prog
import Derived.Ground.SlsfProg
import Derived.Shelf.Spec.TrailingZeros
import Derived.Shelf.SlSortCmp.Whole1
import Derived.Shelf.SlGeneric
import Derived.Shelf.Strings.Builder1
import Derived.Shelf.Strings.Builder2
import Derived.Shelf.Strings.OnBuilder
import Derived.Shelf.Small.Bits
import Derived.Shelf.Small.Wraps
import Derived.Shelf.Strings.BuilderF
import Derived.Shelf.Strings.BuilderK
import Derived.Shelf.Strings.Builder2Cap
import Derived.Shelf.Strconv.Itoa0
import Derived.Shelf.Strconv.Itoa1
import Derived.Shelf.LaysM
import Derived.Shelf.Strconv.Itoa2
import Derived.Shelf.Strconv.Itoa3
import Derived.Shelf.Strings.BuilderCap
import Derived.Shelf.Slices.Turned
import Derived.Ground.Names2Prog
import Derived.Shelf.Slices.Clone
import Derived.Shelf.Slices.SearchI
import Derived.Ground.SlgnProg
import Derived.Shelf.SlicesE.Clone
import Derived.Test.YthfanledageoeaaGreatDoorProg
set_option linter.unusedVariables false
set_option linter.unusedSimpArgs false
set_option linter.constructorNameAsVariable false
namespace Go.Proofs
open Go.RowKit Go.Tw Go.Flow
attribute [local go_sem] Oper.semAt_some
def termW (t:Tree) (c:List Int) (wi s:Nat):Int:=if (s &&& wi) = wi ∧ t.fails (evN s) = true then partOf c s else 0
def sumW {N:Nat} (t:Tree) (c:List Int) (wi:Nat):List (Fin N) → Int
 | []=>0
 | x :: l=>termW t c wi x.1 + sumW t c wi l
theorem sumW_snoc {N:Nat} (t:Tree) (c:List Int) (wi:Nat) (x:Fin N):∀ l,sumW t c wi (l ++ [x]) = sumW t c wi l + termW t c wi x.1
 | []=>by simp [sumW]
 | y :: l=>by rw [List.cons_append,sumW,sumW,sumW_snoc t c wi x l,Int.add_assoc]
theorem termW_bd {c:List Int} (h:Small c) (t:Tree) (wi s:Nat):0 ≤ termW t c wi s ∧ termW t c wi s ≤ 281474976710656:=by
 unfold termW
 split
 · exact partTo_le h s (Nat.le_refl _)
 · omega
theorem sumW_bd {N:Nat} {c:List Int} (h:Small c) (t:Tree) (wi:Nat):∀ l:List (Fin N),0 ≤ sumW t c wi l ∧ sumW t c wi l ≤ l.length * 281474976710656
 | []=>by simp [sumW]
 | x :: l=>by
   have h1:=termW_bd h t wi x.1
   have h2:=sumW_bd h t wi l
   rw [sumW,List.length_cons]
   have h3:((l.length + 1:Nat):Int) = (l.length:Int) + 1:=by omega
   rw [h3,Int.add_mul]
   omega
def weightW (t:Tree) (c:List Int) (wi:Nat):Int:=sumW t c wi (List.finRange (2 ^ t.size))
set_option maxRecDepth 100000 in
set_option maxHeartbeats 2000000 in
theorem pweight_any (w:World) (fv gv:Value) (t:Tree) (c0 c:List Int) (wi:Nat) (hv:Valid t) (hn:IsNo w fv gv t) (hc:Small c) (hlen:c.length = t.size) (hw:wi < 2 ^ 62) :
    Calls Tryz.prog 101 #[noV t c0 fv gv,chV c,.int .i64 wi] w fun e w'=>e = .returned (.int .i64 (weightW t c wi)) ∧ Ext w w':=by
 obtain ⟨A1,cap1,rfl,_,_,_⟩:=hn.fails.opened
 obtain ⟨A2,cap2,rfl,_,_,_⟩:=hn.gates.opened
 rw [masks_len] at hn ⊢
 have HN:=Lib.hid hn
 have HV:=Lib.hid hv
 have HC:=Lib.hid hc
 have HLEN:=Lib.hid hlen
 have hsz:=hv.size
 clear hn hv hc hlen
 rw [chV_eq]
 unfold noV
 refine (callsIn_wide (n:=9)).1 ?_
 refine callsIn_of_wp_marks Tryz.func101 rfl trivial ?_ rfl
 simp only [Tryz.ntmps101,List.size_toArray,List.length_cons,List.length_nil,Nat.reduceAdd,Nat.reduceSub,Array.replicate_succ,Array.replicate_zero,List.push_toArray,List.append_toArray,List.nil_append,List.cons_append]
 gi_wp2_with (refine ⟨trivial,?_⟩; gi_at_call 82; refine (callsIn_wide.2 (setsF_any _ t c0 A1 t.size cap1)).mono ?_; rintro e w' ⟨rfl,hce,hse,hxe⟩)
 have es0:(w.alloc (.cells (outA t.size (.slice A1 t.size cap1) c0 t.basics.length (.slice A2 t.gates.length cap2)) 110)).heap.size = w.heap.size + 1:=by simp
 have k0:=Blk.made w 110 (outA t.size (.slice A1 t.size cap1) c0 t.basics.length (.slice A2 t.gates.length cap2))
 have x0:=Ext.box w (.cells (outA t.size (.slice A1 t.size cap1) c0 t.basics.length (.slice A2 t.gates.length cap2)) 110)
 replace hxe:Ext ((((w.alloc (.cells (outA t.size (.slice A1 t.size cap1) c0 t.basics.length (.slice A2 t.gates.length cap2)) 110)).alloc (.cells (chA c) 105)).alloc (.cells #[.int .i64 wi] 3)).alloc (.cells #[.int .i64 0] 3)) w':=hxe
 replace hce:w'.cell? ⟨((((w.alloc (.cells (outA t.size (.slice A1 t.size cap1) c0 t.basics.length (.slice A2 t.gates.length cap2)) 110)).alloc (.cells (chA c) 105)).alloc (.cells #[.int .i64 wi] 3)).alloc (.cells #[.int .i64 0] 3)).heap.size,0,none⟩ = some (.int .i64 t.size):=hce
 replace hse:w'.heap.size = ((((w.alloc (.cells (outA t.size (.slice A1 t.size cap1) c0 t.basics.length (.slice A2 t.gates.length cap2)) 110)).alloc (.cells (chA c) 105)).alloc (.cells #[.int .i64 wi] 3)).alloc (.cells #[.int .i64 0] 3)).heap.size + 1:=hse
 obtain ⟨X0,hX0⟩:∃ X,w.alloc (.cells (outA t.size (.slice A1 t.size cap1) c0 t.basics.length (.slice A2 t.gates.length cap2)) 110) = X:=⟨_,rfl⟩
 rw [hX0] at hxe hce hse k0 x0 es0
 have k1:=Blk.made X0 105 (chA c)
 have x1:=Ext.box X0 (.cells (chA c) 105)
 have es1:(X0.alloc (.cells (chA c) 105)).heap.size = X0.heap.size + 1:=by simp
 obtain ⟨X1,hX1⟩:∃ X,X0.alloc (.cells (chA c) 105) = X:=⟨_,rfl⟩
 rw [hX1] at hxe hce hse k1 x1 es1
 have k2:=Blk.made X1 3 #[.int .i64 wi]
 have x2:=Ext.box X1 (.cells #[.int .i64 wi] 3)
 have es2:(X1.alloc (.cells #[.int .i64 wi] 3)).heap.size = X1.heap.size + 1:=by simp
 obtain ⟨X2,hX2⟩:∃ X,X1.alloc (.cells #[.int .i64 wi] 3) = X:=⟨_,rfl⟩
 rw [hX2] at hxe hce hse k2 x2 es2
 have k3:=Blk.made X2 3 #[.int .i64 0]
 have x3:=Ext.box X2 (.cells #[.int .i64 0] 3)
 have es3:(X2.alloc (.cells #[.int .i64 0] 3)).heap.size = X2.heap.size + 1:=by simp
 obtain ⟨X3,hX3⟩:∃ X,X2.alloc (.cells #[.int .i64 0] 3) = X:=⟨_,rfl⟩
 rw [hX3] at hxe hce hse k3 x3 es3
 clear hX0 hX1 hX2 hX3
 replace k0:=((k0.ext x1).ext x2).ext (x3.trans hxe)
 replace k1:=(k1.ext x2).ext (x3.trans hxe)
 replace k2:=k2.ext (x3.trans hxe)
 replace k3:=k3.ext hxe
 have XW:Ext w w':=(((x0.trans x1).trans x2).trans x3).trans hxe
 have e1:X0.heap.size = w.heap.size + 1:=es0
 have e2:X1.heap.size = w.heap.size + 1 + 1:=by omega
 have e3:X2.heap.size = w.heap.size + 1 + 1 + 1:=by omega
 have e4:X3.heap.size = w.heap.size + 1 + 1 + 1 + 1:=by omega
 have e5:w'.heap.size = w.heap.size + 1 + 1 + 1 + 1 + 1:=by omega
 rw [e1] at k1
 rw [e2] at k2
 rw [e3] at k3
 rw [e4] at hce
 clear es0 es1 es2 es3 e1 e2 e3 e4 hse x0 x1 x2 x3 hxe
 have HXW:=Lib.hid XW
 clear XW
 refine wpIn_rangeFunc_ownF (n:=9) rfl (by omega) (gf:=134) (lb:=#[.pointer (some ⟨w.heap.size + 1 + 1 + 1 + 1,0,none⟩)]) rfl trivial (enters_of Tryz.func134 (by kernel_rfl) rfl)
  (sets_stops _ (w.heap.size + 1 + 1 + 1 + 1) (2 ^ t.size) w' t rfl hsz hce) (fun _ _=>trivial) (fun _ _ _ _ _ _ _ _=>trivial) (Below.refl _ _) (fun _=>rfl)
  (fun pre W=>Blk W (w.heap.size + 1 + 1 + 1) 3 #[.int .i64 (sumW t c wi pre)] ∧ Below (w.heap.size + 1 + 1 + 1) w' W)
  (fun _ _ _=>False)
  (OwnFrom.and (Own.from (Blk.own _ _ _) _) (ownFrom_below (by omega) (by omega)))
  (fun _ _ _ _ _ hs _ _=>hs)
  ⟨k3,Below.refl _ _⟩
  (fun x=>{ tmps:=#[noV t c0 (.slice A1 t.size cap1) (.slice A2 t.gates.length cap2),.agg (chA c),.int .i64 wi,.pointer (some ⟨w.heap.size,0,none⟩),.pointer (some ⟨w.heap.size + 1,0,none⟩),.pointer (some ⟨w.heap.size + 1 + 1,0,none⟩),.int .i64 0,.pointer (some ⟨w.heap.size + 1 + 1 + 1,0,none⟩),.int .i64 x.1,.pointer (some ⟨w.heap.size,0,none⟩),evV t c0 (.slice A1 t.size cap1),.func (.func 134) #[] #[.pointer (some ⟨w.heap.size + 1 + 1 + 1 + 1,0,none⟩)],.int .i64 x.1,undef,undef,undef,undef,undef,undef,undef,undef,undef,undef,undef,undef,undef,undef,undef,undef,undef],defers:=[] }) ?assign ?body ?done ?stop
 case assign =>
  intro l x W K hK
  gi_wp2
  exact hK
 case stop =>
  rintro D cc pre W _ _ h _
  exact h.elim
 case done =>
  rintro D ys W hD rfl ⟨hb,hB⟩ hK
  have hcell:=hb.cell 0
  gi_wp2
  refine ⟨by simp,.inl ⟨_,_,rfl,run_takeDeferred hK,?_⟩⟩
  exact ⟨_,results_tmp rfl _ _ _,rfl,Below.trans (Below.trans HXW.out (hB.mono (by omega))) (belowK_b (w:=w) (Nat.le_refl _) W D _ _ (by omega) hK rfl rfl)⟩
 case body =>
  rintro l pre x W ⟨hb,hB⟩ hpl
  obtain ⟨x,hxN⟩:=x
  dsimp only
  have h12:(2:Nat) ^ t.size ≤ 2 ^ 12:=Nat.pow_le_pow_right (by omega) hsz
  have b0:=k0.below hB (by omega)
  have b1:=k1.below hB (by omega)
  have b2:=k2.below hB (by omega)
  have c2:W.cell? ⟨w.heap.size + 1 + 1,0,none⟩ = some (.int .i64 wi):=b2.cell 0
  have c3:W.cell? ⟨w.heap.size + 1 + 1 + 1,0,none⟩ = some (.int .i64 (sumW t c wi pre)):=hb.cell 0
  have f3:W.frozen? ⟨w.heap.size + 1 + 1 + 1,0,none⟩ = false:=hb.frozen 0
  have hnW:IsNo W (.slice A1 t.size cap1) (.slice A2 t.gates.length cap2) t:=HN.out.ext (Below.trans HXW.out (hB.mono (by omega)))
  have hs1:=sumW_bd HC.out t wi pre
  have hs2:=partTo_le HC.out x (Nat.le_refl c.length)
  have han:=and64 (a:=x) (b:=wi) (by omega) hw
  have hsn:=sumW_snoc t c wi ⟨x,hxN⟩ pre
  have HSN:Hid (sumW t c wi (pre ++ [⟨x,hxN⟩]) = sumW t c wi pre + (if (x &&& wi) = wi ∧ t.fails (evN x) = true then partOf c x else 0)):=by exact (by rw [hsn,termW]:sumW t c wi (pre ++ [⟨x,hxN⟩]) = sumW t c wi pre + (if (x &&& wi) = wi ∧ t.fails (evN x) = true then partOf c x else 0))
  clear hsn
  obtain ⟨m,hm⟩:∃ m,x &&& wi = m:=⟨_,rfl⟩
  obtain ⟨S,hS⟩:∃ S,sumW t c wi pre = S:=⟨_,rfl⟩
  obtain ⟨p,hp⟩:∃ p,partOf c x = p:=⟨_,rfl⟩
  have hp':partTo c x c.length = p:=hp
  rw [hp'] at hs2
  rw [hS] at hs1 c3 hb
  rw [hm] at han HSN
  rw [hS,hp] at HSN
  have hw7:IntKind.i64.wrap (S + p) = S + p:=wrap_in (by omega) (by omega)
  have HC':=Lib.hid hb
  have HPA:Hid (∀ w',Calls Tryz.prog 136 #[noV t c0 (.slice A1 t.size cap1) (.slice A2 t.gates.length cap2),.int .i64 x,chV c] w' fun e w''=>e = .returned (.int .i64 p) ∧ Ext w' w''):=by
   exact (by intro w'; rw [← hp]; exact part_any w' t c c0 _ _ _ _ _ _ x HC.out HLEN.out (by omega):∀ w',Calls Tryz.prog 136 #[noV t c0 (.slice A1 t.size cap1) (.slice A2 t.gates.length cap2),.int .i64 x,chV c] w' fun e w''=>e = .returned (.int .i64 p) ∧ Ext w' w'')
  have HB:=Lib.hid hB
  have HNW:=Lib.hid hnW
  have HB0:=Lib.hid b0
  have HB1:=Lib.hid b1
  clear hS hp hp' hs1 hs2 hm hnW hb hB b0 b1 b2 h12
  have hlW:w.heap.size + 1 + 1 + 1 < W.heap.size:=World.block_lt_of_cell? W _ c3
  by_cases hmw:m = wi
  · subst hmw
    cases hfa:t.fails (evN x) with
    | false =>
      rw [hfa] at HSN
      gi_wp2_with (first | (refine (show Fence.wide.fn _ ∧ _ from ⟨trivial,?_⟩)) | (refine wpListIn_load_blk (by go_simp) _ _ rfl Tryz.aggNodes Tryz.sizeNodes rfl HB0.out rfl ?_) | (gi_at_call 65; refine (CallsIn.inRound l (callsIn_wide.2 (cut_any _ _ _ t c0 x HV.out hxN HNW.out))).mono ?_; rw [hfa]; rintro e w9 ⟨rfl,hx9⟩))
      exact ⟨keeps_ext hx9,trivial,by rw [HSN.out,if_neg (by simp),Int.add_zero]; exact HC'.out.ext hx9,HB.out.trans (hx9.mono (by omega))⟩
    | true =>
      rw [hfa] at HSN
      gi_wp2_with (first | (refine (show Fence.wide.fn _ ∧ _ from ⟨trivial,?_⟩)) | (refine wpListIn_load_blk (by go_simp) _ _ rfl Tryz.aggNodes Tryz.sizeNodes rfl HB0.out rfl ?_) | (gi_at_call 65; refine (CallsIn.inRound l (callsIn_wide.2 (cut_any _ _ _ t c0 x HV.out hxN HNW.out))).mono ?_; rw [hfa]; rintro e w9 ⟨rfl,hx9⟩))
      replace c3:=hx9.cell c3
      have f9:=(hx9.frozen (p:=⟨w.heap.size + 1 + 1 + 1,0,none⟩) hlW).trans f3
      have h9:=Nat.lt_of_lt_of_le hlW hx9.size
      have hd9:=(Ext.refl w9).drew
      clear c2 f3
      refine Flow.regionI [.world,.world,.plain,.world,.world,.plain,.last] [0,1,2,3,4,5,6] [[],[],[],[],[1,2,3],[0,1,2,3,4],[0,1,2,3,4,5]] [6]
       [.is 0 (fun v=>.int .i64 S),.is 1 (fun v=>noV t c0 (.slice A1 t.size cap1) (.slice A2 t.gates.length cap2)),.is 2 (fun v=>.int .i64 x),.is 3 (fun v=>chV c),.is 4 (fun v=>.int .i64 p),.is 5 (fun v=>.int .i64 (S + p)),.none]
       [fun v w1 w'=>Blk w' (w.heap.size + 1 + 1 + 1) 3 #[.int .i64 (S + p)] ∧ Below (w.heap.size + 1 + 1 + 1) w1 w' ∧ KeepsOthers w1 w'] (by kernel_rfl) (by kernel_rfl) rfl (by kernel_rfl) ⟨?g0,?g1,?g2,?g3,?g4,?g5,?g6,trivial⟩ ?post
      case g0 =>
       intro v w1 hx
       have c3:=hx.cell c3
       intro K hK
       go_simp
       exact hK _ _ (Ext.refl _) rfl
      case g1 =>
       intro v w1 hx
       have c3:=hx.cell c3
       intro K hK
       exact gives_load_blk _ _ rfl Tryz.aggNodes Tryz.sizeNodes (by go_simp) ((HB0.out.ext hx9).ext (hd9.trans hx)) rfl (hK _ _ (Ext.refl _) rfl)
      case g2 =>
       intro v w1 hx
       have c3:=hx.cell c3
       refine ⟨_,fun w=>?_,rfl⟩
       go_simp
      case g3 =>
       intro v w1 hx
       have c3:=hx.cell c3
       intro K hK
       exact gives_load_blk _ _ rfl Tryz.aggCh Tryz.sizeCh (by go_simp) ((HB1.out.ext hx9).ext (hd9.trans hx)) rfl (hK _ _ (Ext.refl _) rfl)
      case g4 =>
       intro v w1 hx (q1:v 1 = noV t c0 (.slice A1 t.size cap1) (.slice A2 t.gates.length cap2)) (q2:v 2 = .int .i64 x) (q3:v 3 = chV c)
       have c3:=hx.cell c3
       intro K hK
       go_simp
       refine gives_call (HPA.out w1) ?_
       rintro e w2 ⟨rfl,hx2⟩
       exact ⟨_,rfl,hK _ _ hx2 rfl⟩
      case g5 =>
       intro v w1 hx (q0:v 0 = .int .i64 S) (q1:v 1 = noV t c0 (.slice A1 t.size cap1) (.slice A2 t.gates.length cap2)) (q2:v 2 = .int .i64 x) (q3:v 3 = chV c) (q4:v 4 = .int .i64 p)
       have c3:=hx.cell c3
       refine ⟨_,fun w=>?_,rfl⟩
       go_simp
      case g6 =>
       intro v w1 hx (q0:v 0 = .int .i64 S) (q1:v 1 = noV t c0 (.slice A1 t.size cap1) (.slice A2 t.gates.length cap2)) (q2:v 2 = .int .i64 x) (q3:v 3 = chV c) (q4:v 4 = .int .i64 p) (q5:v 5 = .int .i64 (S + p))
       intro wl hT
       obtain rfl:wl = w1:=hT
       intro bb hbb
       subst hbb
       have c3:=hx.cell c3
       intro K hK
       have g0:=(hx.frozen (p:=⟨w.heap.size + 1 + 1 + 1,0,none⟩) h9).trans f9
       have gb:=(HC'.out.ext hx9).ext (hd9.trans hx)
       go_simp
       exact hK _ _ ⟨gb.set 0 _,(Below.refl _ wl).setCell (p:=⟨w.heap.size + 1 + 1 + 1,0,none⟩) (Nat.le_refl _) _,KeepsOthers.setCell _ _ _⟩
      case post =>
       intro v w1 hx (q0:v 0 = .int .i64 S) (q1:v 1 = noV t c0 (.slice A1 t.size cap1) (.slice A2 t.gates.length cap2)) (q2:v 2 = .int .i64 x) (q3:v 3 = chV c) (q4:v 4 = .int .i64 p) (q5:v 5 = .int .i64 (S + p))
       intro w2 hE
       replace hE:(fun v w1 w'=>Blk w' (w.heap.size + 1 + 1 + 1) 3 #[.int .i64 (S + p)] ∧ Below (w.heap.size + 1 + 1 + 1) w1 w' ∧ KeepsOthers w1 w') v w1 w2:=hE
       simp only [Flow.acts,Act.put]
       go_simp
       obtain ⟨hb2,hl2,hk2⟩:=hE
       gi_wp2
       exact ⟨((keeps_ext hx9).trans (keeps_ext (hd9.trans hx))).trans hk2,trivial,by rw [HSN.out,if_pos ⟨trivial,trivial⟩]; exact hb2,(HB.out.trans ((hx9.trans (hd9.trans hx)).mono (by omega))).trans hl2⟩
  · have hmw':¬ (m:Int) = (wi:Int):=by omega
    have hbe:((m:Int) == (wi:Int)) = false:=beq_eq_false_iff_ne.2 hmw'
    gi_wp2_with (refine (show Fence.wide.fn _ ∧ _ from ⟨trivial,?_⟩))
    exact ⟨KeepsOthers.refl _,trivial,by rw [HSN.out,if_neg (fun h=>hmw h.1),Int.add_zero]; exact HC'.out,HB.out⟩
end Go.Proofs
namespace Go.Proofs
open Go.Shelf
open Go.RowKit in
open Go.RowKit in
open Go.RowKit in
open Go.RowKit in
open Go.RowKit in
def Tryz.lays156_ren:Go.Shelf.Ren:=⟨fun | 156=>115 | 165=>139 | 166=>140 | 169=>141 | 240=>154 | 241=>155 | 276=>170 | 277=>171 | n=>n,fun | 31=>158 | 9=>9 | 3=>3 | 4=>4 | 0=>0 | 20=>20 | 72=>191 | 76=>195 | 70=>188 | 37=>189 | 75=>194 | 127=>205 | 164=>214 | 5=>5 | 80=>197 | n=>n,fun | n=>n⟩
theorem Tryz.lays156:Go.Proofs.Lays.n156 Tryz.prog Tryz.lays156_ren:={
 mixed:=by kernel_rfl
 f156:=Tryz.func115.trans (congrArg some (by kernel_rfl))
 f165:=Tryz.func139.trans (congrArg some (by kernel_rfl))
 f166:=Tryz.func140.trans (congrArg some (by kernel_rfl))
 f169:=Tryz.func141.trans (congrArg some (by kernel_rfl))
 f240:=Tryz.func154.trans (congrArg some (by kernel_rfl))
 f241:=Tryz.func155.trans (congrArg some (by kernel_rfl))
 f276:=Tryz.func170.trans (congrArg some (by kernel_rfl))
 f277:=Tryz.func171.trans (congrArg some (by kernel_rfl))
 t0:=Tryz.underlying0
 a0:=Tryz.isAgg0
 z0:=Tryz.sizeOf0
 v0:=Tryz.zeroValue0
 t3:=Tryz.underlying3
 a3:=Tryz.isAgg3
 z3:=Tryz.sizeOf3
 v3:=Tryz.zeroValue3
 t4:=Tryz.underlying4
 a4:=Tryz.isAgg4
 z4:=Tryz.sizeOf4
 v4:=Tryz.zeroValue4
 t9:=Tryz.underlying9
 a9:=Tryz.isAgg9
 z9:=Tryz.sizeOf9
 v9:=Tryz.zeroValue9
 t20:=Tryz.underlying20
 a20:=Tryz.isAgg20
 z20:=Tryz.sizeOf20
 v20:=Tryz.zeroValue20
 t31:=Tryz.underlying158
 a31:=Tryz.isAgg158
 z31:=Tryz.sizeOf158
 v31:=Tryz.zeroValue158
 t37:=Tryz.underlying189
 a37:=Tryz.isAgg189
 z37:=Tryz.sizeOf189
 v37:=Tryz.zeroValue189
 t70:=Tryz.underlying188
 a70:=Tryz.isAgg188
 z70:=Tryz.sizeOf188
 v70:=Tryz.zeroValue188
 t72:=Tryz.underlying191
 a72:=Tryz.isAgg191
 z72:=Tryz.sizeOf191
 v72:=Tryz.zeroValue191
 t75:=Tryz.underlying194
 a75:=Tryz.isAgg194
 z75:=Tryz.sizeOf194
 v75:=Tryz.zeroValue194
 t76:=Tryz.underlying195
 a76:=Tryz.isAgg195
 z76:=Tryz.sizeOf195
 v76:=Tryz.zeroValue195
 t127:=Tryz.underlying205
 a127:=Tryz.isAgg205
 z127:=Tryz.sizeOf205
 v127:=Tryz.zeroValue205
 t164:=Tryz.underlying214
 a164:=Tryz.isAgg214
 z164:=Tryz.sizeOf214
 v164:=Tryz.zeroValue214 }
theorem Tryz.Builder_Extra_156:Builder.Extra Tryz.prog Tryz.lays156_ren:={
 sizeBuilder:=by kernel_rfl
 liesBuilder:=by kernel_rfl
 t5:=Tryz.underlying5
 a5:=Tryz.isAgg5
 z5:=Tryz.sizeOf5
 v5:=Tryz.zeroValue5
 infoByte:=by kernel_rfl
 cellsByte:=by kernel_rfl
 sizeByte:=by kernel_rfl
 neB5:=by decide }
open Go.RowKit in
open Go.RowKit in
theorem Tryz.strings_Join (bk o c:Nat) (xs:List ByteArray) (sep:ByteArray) (w:World) (hcells:∀ (j:Nat) x,xs[j]? = some x → w.cell? ⟨bk,o + j,none⟩ = some (.string x)) (hbk:bk < w.heap.size) (hN:xs.length ≤ 140737488355328) (hcap:xs.length ≤ c) (hlen:(Lib.join (xs.map (·.data.toList)) sep.data.toList).length ≤ 140737488355328) :
    Calls Tryz.prog 115 #[.slice (some ⟨bk,o,none⟩) xs.length c,.string sep] w fun e w'=>e = .returned (.string ⟨(Lib.join (xs.map (·.data.toList)) sep.data.toList).toArray⟩) ∧ Below w.heap.size w w':=Any.strings_Join Tryz.lays156 Tryz.Builder_Extra_156 bk o c xs sep w hcells hbk hN hcap hlen
def Tryz.lays125_ren:Go.Shelf.Ren:=⟨fun | 125=>149 | 128=>167 | 129=>168 | n=>n,fun | 46=>186 | 3=>3 | 51=>202 | 53=>204 | 4=>4 | 5=>5 | 9=>9 | n=>n,fun | n=>n⟩
theorem Tryz.lays125:Go.Proofs.Lays.n125 Tryz.prog Tryz.lays125_ren:={
 mixed:=by kernel_rfl
 f125:=Tryz.func149.trans (congrArg some (by kernel_rfl))
 f128:=Tryz.func167.trans (congrArg some (by kernel_rfl))
 f129:=Tryz.func168.trans (congrArg some (by kernel_rfl))
 t3:=Tryz.underlying3
 a3:=Tryz.isAgg3
 z3:=Tryz.sizeOf3
 v3:=Tryz.zeroValue3
 t4:=Tryz.underlying4
 a4:=Tryz.isAgg4
 z4:=Tryz.sizeOf4
 v4:=Tryz.zeroValue4
 t5:=Tryz.underlying5
 a5:=Tryz.isAgg5
 z5:=Tryz.sizeOf5
 v5:=Tryz.zeroValue5
 t9:=Tryz.underlying9
 a9:=Tryz.isAgg9
 z9:=Tryz.sizeOf9
 v9:=Tryz.zeroValue9
 t46:=Tryz.underlying186
 a46:=Tryz.isAgg186
 z46:=Tryz.sizeOf186
 v46:=Tryz.zeroValue186
 t51:=Tryz.underlying202
 a51:=Tryz.isAgg202
 z51:=Tryz.sizeOf202
 v51:=Tryz.zeroValue202
 t53:=Tryz.underlying204
 a53:=Tryz.isAgg204
 z53:=Tryz.sizeOf204
 v53:=Tryz.zeroValue204 }
theorem Tryz.bits_Len (x:Int) (w:World) (h0:0 ≤ x) (h1:x ≤ 18446744073709551615) :
    Calls Tryz.prog 149 #[.int .u64 x] w fun e w'=>e = .returned (.int .i64 (Lib.bitLen x.toNat)) ∧ w' = w:=Any.bits_Len Tryz.lays125 x w h0 h1
open Go.RowKit in
open Go.RowKit in
open Go.RowKit in
open Go.RowKit in
open Go.RowKit in
open Go.RowKit in
open Go.RowKit in
open Go.RowKit in
open Go.RowKit in
open Go.RowKit in
open Go.Lib in
open Go.Lib in
open Go.Lib in
open Go.Lib in
open Go.RowKit Go.Sort Go.Lib in
open Go.RowKit Go.Sort Go.Lib in
open Go.RowKit Go.Sort Go.Lib in
open Go.RowKit Go.Sort Go.Lib in
open Go.RowKit Go.Sort Go.Lib in
open Go.RowKit Go.Sort Go.Lib in
def Tryz.lays171_ren:Go.Shelf.Ren:=⟨fun | 171=>143 | 243=>156 | 246=>172 | 283=>179 | 284=>180 | 285=>181 | 286=>182 | 129=>168 | 317=>184 | 318=>185 | 319=>186 | 320=>147 | 337=>157 | 338=>158 | n=>n,fun | 3=>3 | 9=>9 | 2=>2 | 4=>4 | 171=>226 | 0=>0 | 53=>204 | 37=>189 | 5=>5 | 173=>228 | 212=>234 | 51=>202 | 20=>20 | 213=>235 | 46=>186 | 232=>218 | 233=>219 | n=>n,fun | 17=>3 | 18=>0 | 19=>1 | n=>n⟩
theorem Tryz.lays171:Go.Proofs.Lays.n171 Tryz.prog Tryz.lays171_ren:={
 mixed:=by kernel_rfl
 f129:=Tryz.func168.trans (congrArg some (by kernel_rfl))
 f171:=Tryz.func143.trans (congrArg some (by kernel_rfl))
 f243:=Tryz.func156.trans (congrArg some (by kernel_rfl))
 f246:=Tryz.func172.trans (congrArg some (by kernel_rfl))
 f283:=Tryz.func179.trans (congrArg some (by kernel_rfl))
 f284:=Tryz.func180.trans (congrArg some (by kernel_rfl))
 f285:=Tryz.func181.trans (congrArg some (by kernel_rfl))
 f286:=Tryz.func182.trans (congrArg some (by kernel_rfl))
 f317:=Tryz.func184.trans (congrArg some (by kernel_rfl))
 f318:=Tryz.func185.trans (congrArg some (by kernel_rfl))
 f319:=Tryz.func186.trans (congrArg some (by kernel_rfl))
 f320:=Tryz.func147.trans (congrArg some (by kernel_rfl))
 f337:=Tryz.func157.trans (congrArg some (by kernel_rfl))
 f338:=Tryz.func158.trans (congrArg some (by kernel_rfl))
 t0:=Tryz.underlying0
 a0:=Tryz.isAgg0
 z0:=Tryz.sizeOf0
 v0:=Tryz.zeroValue0
 t2:=Tryz.underlying2
 a2:=Tryz.isAgg2
 z2:=Tryz.sizeOf2
 v2:=Tryz.zeroValue2
 t3:=Tryz.underlying3
 a3:=Tryz.isAgg3
 z3:=Tryz.sizeOf3
 v3:=Tryz.zeroValue3
 t4:=Tryz.underlying4
 a4:=Tryz.isAgg4
 z4:=Tryz.sizeOf4
 v4:=Tryz.zeroValue4
 t5:=Tryz.underlying5
 a5:=Tryz.isAgg5
 z5:=Tryz.sizeOf5
 v5:=Tryz.zeroValue5
 t9:=Tryz.underlying9
 a9:=Tryz.isAgg9
 z9:=Tryz.sizeOf9
 v9:=Tryz.zeroValue9
 t20:=Tryz.underlying20
 a20:=Tryz.isAgg20
 z20:=Tryz.sizeOf20
 v20:=Tryz.zeroValue20
 t37:=Tryz.underlying189
 a37:=Tryz.isAgg189
 z37:=Tryz.sizeOf189
 v37:=Tryz.zeroValue189
 t46:=Tryz.underlying186
 a46:=Tryz.isAgg186
 z46:=Tryz.sizeOf186
 v46:=Tryz.zeroValue186
 t51:=Tryz.underlying202
 a51:=Tryz.isAgg202
 z51:=Tryz.sizeOf202
 v51:=Tryz.zeroValue202
 t53:=Tryz.underlying204
 a53:=Tryz.isAgg204
 z53:=Tryz.sizeOf204
 v53:=Tryz.zeroValue204
 t171:=Tryz.underlying226
 a171:=Tryz.isAgg226
 z171:=Tryz.sizeOf226
 v171:=Tryz.zeroValue226
 t173:=Tryz.underlying228
 a173:=Tryz.isAgg228
 z173:=Tryz.sizeOf228
 v173:=Tryz.zeroValue228
 t212:=Tryz.underlying234
 a212:=Tryz.isAgg234
 z212:=Tryz.sizeOf234
 v212:=Tryz.zeroValue234
 t213:=Tryz.underlying235
 a213:=Tryz.isAgg235
 z213:=Tryz.sizeOf235
 t232:=Tryz.underlying218
 a232:=Tryz.isAgg218
 z232:=Tryz.sizeOf218
 v232:=Tryz.zeroValue218
 t233:=Tryz.underlying219
 a233:=Tryz.isAgg219
 z233:=Tryz.sizeOf219
 v233:=Tryz.zeroValue219
 g17:=by kernel_rfl
 g18:=by kernel_rfl
 g19:=by kernel_rfl }
open Go.RowKit Go.Sort Go.Lib in
theorem Tryz.strconv_Itoa_small (i:Nat) (hi:i < 100) (w:World) :
    Calls Tryz.prog 143 #[.int .i64 i] w fun e w'=>e = .returned (.string ⟨(Lib.decDigits i).toArray⟩) ∧ w' = w:=Any.strconv_Itoa_small Tryz.lays171 i hi w
open Go.Lib in
open Go.Lib in
open Go.Lib in
open Go.Lib in
def Tryz.laysNm215_ren:Go.Shelf.Ren:=⟨fun | 15=>138 | n=>n,fun | 22=>39 | 3=>3 | 4=>4 | n=>n,fun | n=>n⟩
theorem Tryz.laysNm215:Go.Proofs.Lays2.n15 Tryz.prog Tryz.laysNm215_ren:={
 mixed:=by kernel_rfl
 f15:=Tryz.func138.trans (congrArg some (by kernel_rfl))
 t3:=Tryz.underlying3
 a3:=Tryz.isAgg3
 z3:=Tryz.sizeOf3
 v3:=Tryz.zeroValue3
 t4:=Tryz.underlying4
 a4:=Tryz.isAgg4
 z4:=Tryz.sizeOf4
 v4:=Tryz.zeroValue4
 t22:=Tryz.underlying39
 a22:=Tryz.isAgg39
 z22:=Tryz.sizeOf39
 v22:=Tryz.zeroValue39
 i3:=by kernel_rfl }
open Go.RowKit Go.Lib in
theorem Tryz.slices_Clone_int (b off n c:Nat) (zs:List Int) (w:World) (hz:n ≤ zs.length) (hbig:n * 8 ≤ 140737488355328) (hc:∀ j,j < zs.length → w.cell? ⟨b,off + j,none⟩ = some (.int .i64 (zs.getD j 0))) :
    Calls Tryz.prog 138 #[.slice (some ⟨b,off,none⟩) n c] w fun e w'=>∃ v',e = .returned v' ∧ w'.ownsRow w.heap.size 3 1 v' n ((zs.take n).map (Value.int .i64)) ∧ v' ≠ .slice none 0 0 ∧ Below w.heap.size w w':=Any.slices_Clone_int Tryz.laysNm215 b off n c zs w hz hbig hc
open Go.RowKit Go.Lib in
theorem Tryz.slices_Clone_int_nil (n c:Nat) (w:World) :
    Calls Tryz.prog 138 #[.slice none n c] w fun e w'=>e = .returned (.slice none 0 0) ∧ w' = w:=Any.slices_Clone_int_nil Tryz.laysNm215 n c w
open Go.RowKit Go.Lib in
theorem Tryz.slices_Clone_int_zero (a:Addr) (c:Nat) (w:World) :
    Calls Tryz.prog 138 #[.slice (some a) 0 c] w fun e w'=>∃ v',e = .returned v' ∧ w'.ownsRow w.heap.size 3 1 v' 0 [] ∧ v' ≠ .slice none 0 0 ∧ Below w.heap.size w w':=Any.slices_Clone_int_zero Tryz.laysNm215 a c w
open Go.RowKit Go.Lib in
open Go.RowKit Go.Lib in
open Go.RowKit Go.Lib in
def Tryz.sortSet_ren:Go.Shelf.Ren:=⟨fun | 6=>123 | 15=>149 | 14=>148 | 28=>167 | 29=>168 | 20=>159 | 21=>160 | 22=>161 | 23=>162 | 24=>163 | 25=>164 | 26=>165 | 27=>166 | 46=>173 | 47=>174 | 48=>175 | 49=>176 | 50=>177 | 57=>183 | n=>n,fun | 22=>171 | 24=>172 | 25=>175 | 3=>3 | 39=>186 | 0=>0 | 53=>202 | 55=>204 | 4=>4 | 46=>208 | 45=>207 | 50=>212 | 5=>5 | 9=>9 | 66=>220 | 70=>224 | 76=>230 | 77=>231 | n=>n,fun | n=>n⟩
theorem Tryz.sortSet:Go.Proofs.SlLaysF.n6 Tryz.prog Tryz.sortSet_ren:={
 mixed:=by kernel_rfl
 f6:=⟨Tryz.f123.name,by decide,Tryz.func123.trans (congrArg some (by kernel_rfl))⟩
 f14:=⟨Tryz.f148.name,by decide,Tryz.func148.trans (congrArg some (by kernel_rfl))⟩
 f15:=Tryz.func149.trans (congrArg some (by kernel_rfl))
 f20:=⟨Tryz.f159.name,by decide,Tryz.func159.trans (congrArg some (by kernel_rfl))⟩
 f21:=⟨Tryz.f160.name,by decide,Tryz.func160.trans (congrArg some (by kernel_rfl))⟩
 f22:=⟨Tryz.f161.name,by decide,Tryz.func161.trans (congrArg some (by kernel_rfl))⟩
 f23:=⟨Tryz.f162.name,by decide,Tryz.func162.trans (congrArg some (by kernel_rfl))⟩
 f24:=⟨Tryz.f163.name,by decide,Tryz.func163.trans (congrArg some (by kernel_rfl))⟩
 f25:=⟨Tryz.f164.name,by decide,Tryz.func164.trans (congrArg some (by kernel_rfl))⟩
 f26:=⟨Tryz.f165.name,by decide,Tryz.func165.trans (congrArg some (by kernel_rfl))⟩
 f27:=⟨Tryz.f166.name,by decide,Tryz.func166.trans (congrArg some (by kernel_rfl))⟩
 f28:=Tryz.func167.trans (congrArg some (by kernel_rfl))
 f29:=Tryz.func168.trans (congrArg some (by kernel_rfl))
 f46:=⟨Tryz.f173.name,by decide,Tryz.func173.trans (congrArg some (by kernel_rfl))⟩
 f47:=Tryz.func174.trans (congrArg some (by kernel_rfl))
 f48:=Tryz.func175.trans (congrArg some (by kernel_rfl))
 f49:=⟨Tryz.f176.name,by decide,Tryz.func176.trans (congrArg some (by kernel_rfl))⟩
 f50:=⟨Tryz.f177.name,by decide,Tryz.func177.trans (congrArg some (by kernel_rfl))⟩
 f57:=⟨Tryz.f183.name,by decide,Tryz.func183.trans (congrArg some (by kernel_rfl))⟩
 t0:=Tryz.underlying0
 a0:=Tryz.isAgg0
 z0:=Tryz.sizeOf0
 v0:=Tryz.zeroValue0
 t3:=Tryz.underlying3
 a3:=Tryz.isAgg3
 z3:=Tryz.sizeOf3
 v3:=Tryz.zeroValue3
 t4:=Tryz.underlying4
 a4:=Tryz.isAgg4
 z4:=Tryz.sizeOf4
 v4:=Tryz.zeroValue4
 t5:=Tryz.underlying5
 a5:=Tryz.isAgg5
 z5:=Tryz.sizeOf5
 v5:=Tryz.zeroValue5
 t9:=Tryz.underlying9
 a9:=Tryz.isAgg9
 z9:=Tryz.sizeOf9
 v9:=Tryz.zeroValue9
 t22:=Tryz.underlying171
 a22:=Tryz.isAgg171
 z22:=Tryz.sizeOf171
 v22:=Tryz.zeroValue171
 a24:=Tryz.isAgg172
 z24:=Tryz.sizeOf172
 t25:=Tryz.underlying175
 a25:=Tryz.isAgg175
 z25:=Tryz.sizeOf175
 v25:=Tryz.zeroValue175
 t39:=Tryz.underlying186
 a39:=Tryz.isAgg186
 z39:=Tryz.sizeOf186
 v39:=Tryz.zeroValue186
 t45:=Tryz.underlying207
 a45:=Tryz.isAgg207
 z45:=Tryz.sizeOf207
 v45:=Tryz.zeroValue207
 t46:=Tryz.underlying208
 a46:=Tryz.isAgg208
 z46:=Tryz.sizeOf208
 v46:=Tryz.zeroValue208
 t50:=Tryz.underlying212
 a50:=Tryz.isAgg212
 z50:=Tryz.sizeOf212
 v50:=Tryz.zeroValue212
 t53:=Tryz.underlying202
 a53:=Tryz.isAgg202
 z53:=Tryz.sizeOf202
 v53:=Tryz.zeroValue202
 t55:=Tryz.underlying204
 a55:=Tryz.isAgg204
 z55:=Tryz.sizeOf204
 v55:=Tryz.zeroValue204
 t66:=Tryz.underlying220
 a66:=Tryz.isAgg220
 z66:=Tryz.sizeOf220
 v66:=Tryz.zeroValue220
 t70:=Tryz.underlying224
 a70:=Tryz.isAgg224
 z70:=Tryz.sizeOf224
 v70:=Tryz.zeroValue224
 t76:=Tryz.underlying230
 a76:=Tryz.isAgg230
 z76:=Tryz.sizeOf230
 v76:=Tryz.zeroValue230
 t77:=Tryz.underlying231
 a77:=Tryz.isAgg231
 z77:=Tryz.sizeOf231
 v77:=Tryz.zeroValue231 }
def Tryz.lays27t_ren:Go.Shelf.Ren:=⟨fun | 27=>147 | 28=>157 | 29=>158 | n=>n,fun | 25=>186 | 3=>3 | 27=>202 | 22=>204 | 4=>4 | 53=>218 | 0=>0 | 5=>5 | 54=>219 | n=>n,fun | 0=>0 | 1=>1 | n=>n⟩
theorem Tryz.lays27t:Go.Proofs.Lays7.n27 Tryz.prog Tryz.lays27t_ren:={
 mixed:=by kernel_rfl
 f27:=Tryz.func147.trans (congrArg some (by kernel_rfl))
 f28:=Tryz.func157.trans (congrArg some (by kernel_rfl))
 f29:=Tryz.func158.trans (congrArg some (by kernel_rfl))
 t0:=Tryz.underlying0
 a0:=Tryz.isAgg0
 z0:=Tryz.sizeOf0
 v0:=Tryz.zeroValue0
 i0:=by kernel_rfl
 t3:=Tryz.underlying3
 a3:=Tryz.isAgg3
 z3:=Tryz.sizeOf3
 v3:=Tryz.zeroValue3
 i3:=by kernel_rfl
 t4:=Tryz.underlying4
 a4:=Tryz.isAgg4
 z4:=Tryz.sizeOf4
 v4:=Tryz.zeroValue4
 i4:=by kernel_rfl
 t5:=Tryz.underlying5
 a5:=Tryz.isAgg5
 z5:=Tryz.sizeOf5
 v5:=Tryz.zeroValue5
 i5:=by kernel_rfl
 t22:=Tryz.underlying204
 a22:=Tryz.isAgg204
 z22:=Tryz.sizeOf204
 v22:=Tryz.zeroValue204
 i22:=by kernel_rfl
 t25:=Tryz.underlying186
 a25:=Tryz.isAgg186
 z25:=Tryz.sizeOf186
 v25:=Tryz.zeroValue186
 i25:=by kernel_rfl
 t27:=Tryz.underlying202
 a27:=Tryz.isAgg202
 z27:=Tryz.sizeOf202
 v27:=Tryz.zeroValue202
 i27:=by kernel_rfl
 t53:=Tryz.underlying218
 a53:=Tryz.isAgg218
 z53:=Tryz.sizeOf218
 v53:=Tryz.zeroValue218
 i53:=by kernel_rfl
 t54:=Tryz.underlying219
 a54:=Tryz.isAgg219
 z54:=Tryz.sizeOf219
 g0:=by kernel_rfl
 g1:=by kernel_rfl }
end Go.Proofs
