/- The iterator over all sets of events. Contracts: the product of Q0b of a set; Q0b with others in their place. Contract: quotients in lowest terms. Whole loads and stores of blocks inside a fence; the worlds of a round. -/
import Derived.Test.YtmaejccjimkbiaaGreatDoorFx15
import Derived.RangeFuncNested
import Derived.RangeFuncBound
import Derived.RangeFuncCalls
import Derived.RangeFuncLeaves
import Derived.RangeFuncFrom
import Derived.Shelf.Abstract
import Derived.Shelf.RegionOpen
import Derived.OwnWalkIn
import Derived.TacticsInMore
import Derived.LoopNIn
import Derived.LoopIn
import Derived.Test.YtmaejccjimkbiaaGreatDoorFx09
set_option linter.unusedVariables false
set_option linter.unusedSimpArgs false
set_option linter.constructorNameAsVariable false
namespace Go.Proofs
open Go.RowKit Go.Tw Go.Flow
attribute [local go_sem] Oper.semAt_some
theorem X1e (w:World) (t:Tree) (c:List Int) (A:Option Addr) (n cap:Nat) :
    Calls Tryz.prog 82 #[evV t c (.slice A n cap)] w fun e w'=>e = .returned (.func (.func 136) #[] #[.pointer (some ⟨w.heap.size,0,none⟩)]) ∧ w'.cell? ⟨w.heap.size,0,none⟩ = some (.int .i64 t.size) ∧ w'.heap.size = w.heap.size + 1 ∧ Ext w w':=by
 unfold evV;go_enter Tryz.func82,Tryz.ntmps82;go_wp2;go_ret;exact ⟨rfl,Q0z _ _ _ 0,by simp,Ext.box _ _⟩
def X0i (N k:Nat):List (Fin N):=(List.finRange N).take k
theorem Y5p {N k:Nat} (h:k ≤ N):(X0i N k).length = k:=by simp [X0i,h]
theorem Y2l {N k:Nat} (h:k < N):X0i N (k + 1) = X0i N k ++ [⟨k,h⟩]:=by
 unfold X0i;rw [List.take_succ_eq_append_getElem (by simpa using h)]
 simp
theorem Y6s {N:Nat}:X0i N N = List.finRange N:=by unfold X0i; exact List.take_of_length_le (by simp)
set_option maxRecDepth 100000 in
set_option maxHeartbeats 1000000 in
theorem Q9z (m:Nat) (Be N:Nat) (w:World) (t:Tree) (hN:2 ^ t.size = N) (hs:t.size ≤ 12) (hc:w.cell? ⟨Be,0,none⟩ = some (.int .i64 t.size)) :
    SeqStopsK Fence.wide m Tryz.prog 136 #[.pointer (some ⟨Be,0,none⟩)] (fun x:Fin N=>#[.int .i64 x.1]) (fun _ _=>True) (fun xs=>xs = List.finRange N) (fun _=>True) N w:=by
 intro l J Jx W hW _ _ hY h0;have hbe:=World.block_lt_of_cell? w _ hc;have hcell:W.cell? ⟨Be,0,none⟩ = some (.int .i64 t.size):=(hW.cell (p:=⟨Be,0,none⟩) hbe).trans hc;have p1:=Y2j (n:=t.size) (by omega)
 rw [hN] at p1;have hN2:N ≤ 4096:=by rw [← hN]; exact Nat.pow_le_pow_right (n:=2) (by omega) hs
 have HNN:=Lib.hid hN;clear hc hN hW;refine callsIn_of_wp Tryz.func136 rfl trivial ?_ rfl;simp only [Tryz.ntmps136,List.size_toArray,List.length_cons,List.length_nil,Nat.reduceAdd,Nat.reduceSub,Array.replicate_succ,Array.replicate_zero,List.push_toArray,List.append_toArray,List.nil_append,List.cons_append]
 gi_wp2
 gi_loopw [7] (fun p wr=>∃ k:Nat,k ≤ N ∧ p = .int .i64 k ∧ J (X0i N k) wr) (fun p _=>N - (intOf p).toNat)
 case atStart=>exact ⟨0,Nat.zero_le _,rfl,by simpa [X0i] using h0⟩
 case round =>
  obtain ⟨k,hk,rfl,hJ⟩:=hrel
  by_cases hlt:k < N
  · obtain ⟨fn,tmps,assign,body,hy,hR⟩:=hY (X0i N k) ⟨k,hlt⟩ wr hJ (by rw [Y5p hk]; exact hlt)
    dsimp only at hy
    gi_wp2
    refine ⟨fun h=>by simp [Fence.wide] at h,hR.mono ?_⟩
    rintro e W3 (⟨rfl,hJ3,_⟩ | ⟨rfl,hJx3⟩)
    · gi_wp2
      go_roundw
      case rel=>exact ⟨k + 1,by omega,by go_num,by rw [Y2l hlt]; exact hJ3⟩
      case measure=>simp [intOf]; omega
    · gi_wp2
      refine bodyPost_ret (results_none rfl _ _ _) rfl ?_;exact ⟨⟨_,rfl⟩,.inr ⟨_,trivial,hJx3⟩⟩
  · have e:k = N:=by omega
    have HJ:Hid (J (List.finRange N) wr):=by exact (by subst e; rw [← Y6s]; exact hJ:J (List.finRange N) wr)
    clear hJ e
    gi_wp2
    go_end0
    exact ⟨⟨_,rfl⟩,.inl ⟨_,rfl,HJ.out⟩⟩
end Go.Proofs
namespace Go.Proofs
open Go.RowKit Go.Tw Go.Flow
def chA (c:List Int):Array Value:=#[.int .i64 (ix c 0),.int .i64 (ix c 1),.int .i64 (ix c 2),.int .i64 (ix c 3),.int .i64 (ix c 4),.int .i64 (ix c 5),.int .i64 (ix c 6),.int .i64 (ix c 7),.int .i64 (ix c 8),.int .i64 (ix c 9),.int .i64 (ix c 10),.int .i64 (ix c 11)]
theorem Y4f (c:List Int):chV c = .agg (chA c):=rfl
theorem X6w (c:List Int) {j:Nat} (hj:j < 12):(chA c)[j]? = some (.int .i64 (ix c j)):=by
 have:j = 0 ∨ j = 1 ∨ j = 2 ∨ j = 3 ∨ j = 4 ∨ j = 5 ∨ j = 6 ∨ j = 7 ∨ j = 8 ∨ j = 9 ∨ j = 10 ∨ j = 11:=by omega
 rcases this with rfl | rfl | rfl | rfl | rfl | rfl | rfl | rfl | rfl | rfl | rfl | rfl <;> rfl
theorem Y7o {c d:List Int} {j:Nat} {x:Int} (hj:j < 12) (hd:∀ i,i < 12 → ix d i = if i = j then x else ix c i):(chA c).setIfInBounds j (.int .i64 x) = chA d:=by
 have hj':j = 0 ∨ j = 1 ∨ j = 2 ∨ j = 3 ∨ j = 4 ∨ j = 5 ∨ j = 6 ∨ j = 7 ∨ j = 8 ∨ j = 9 ∨ j = 10 ∨ j = 11:=by omega
 have d0:=hd 0 (by omega)
 have d1:=hd 1 (by omega)
 have d2:=hd 2 (by omega)
 have d3:=hd 3 (by omega)
 have d4:=hd 4 (by omega)
 have d5:=hd 5 (by omega)
 have d6:=hd 6 (by omega)
 have d7:=hd 7 (by omega)
 have d8:=hd 8 (by omega)
 have d9:=hd 9 (by omega)
 have d10:=hd 10 (by omega)
 have d11:=hd 11 (by omega)
 unfold chA
 rcases hj' with rfl | rfl | rfl | rfl | rfl | rfl | rfl | rfl | rfl | rfl | rfl | rfl <;> simp only [d0,d1,d2,d3,d4,d5,d6,d7,d8,d9,d10,d11] <;> rfl
theorem Tryz.Q6x (w:World):(isAgg 116).run Tryz.prog w = .ok true w:=by kernel_rfl
theorem Tryz.Q4a (w:World):(sizeOf 116).run Tryz.prog w = .ok 12 w:=by kernel_rfl
theorem Y8i {c l:List Int} {n:Int} {k:Nat} (hk:k < l.length) {m:Nat} (hm:ix l k = (m:Int)) (i:Nat) (hmc:m < c.length):ix (Q6s c l n (k + 1)) i = if i = m then n else ix (Q6s c l n k) i:=by
 unfold Q6s ix;simp only [List.getD_eq_getElem?_getD,List.getElem?_map];rw [← List.take_append_getElem hk];have e:has (l.take k ++ [l[k]]) (i:Int) = (has (l.take k) i || decide (i = m)):=by
  have hm':l[k] = (m:Int):=by rw [← hm,Q8m hk]
  rw [hm'];have e2:((i:Int) = (m:Int)) ↔ i = m:=by omega
  rw [Bool.eq_iff_iff,Bool.or_eq_true,X8n,X8n,List.mem_append,List.mem_singleton,decide_eq_true_iff,e2]
 by_cases hi:i < c.length
 · simp only [List.getElem?_range hi,Option.map_some,Option.getD_some,e]
   by_cases him:i = m
   · simp [him]
   · simp [him]
 · have him:¬ i = m:=by omega
   rw [if_neg him];simp [hi]
theorem _root_.Go.Tw.Blk.setOther {w:World} {g:Nat} {T:TypeId} {cs:Array Value} (h:Blk w g T cs) {p:Addr} (hne:g ≠ p.block) (u:Value):Blk (w.setCell p u) g T cs:=by
 unfold Blk at *; rw [Below.heap_setCell _ _ _ _ hne]; exact h
set_option maxRecDepth 100000 in
set_option maxHeartbeats 1000000 in
theorem set_any (w:World) (c l:List Int) (u:Value) (n:Int) (hu:Q0f w u l) (hc:c.length ≤ 12) (hl:∀ x ∈ l,0 ≤ x ∧ x < c.length) :
    Calls Tryz.prog 98 #[chV c,u,.int .i64 n] w fun e w'=>e = .returned (chV (Q0t c l n)) ∧ Ext w w':=by
 obtain ⟨A,cap,rfl,hll,hcap,hcell⟩:=hu.opened;have HC:=Lib.hid hcell;have HL:=Lib.hid hl;rw [Y4f];have k0:=Blk.made w 116 (chA c);have hx0:=Ext.box w (.cells (chA c) 116);have k1:=Blk.made (w.alloc (.cells (chA c) 116)) 116 (chA []);have hx1:=Ext.box (w.alloc (.cells (chA c) 116)) (.cells (chA []) 116);have es:(w.alloc (.cells (chA c) 116)).heap.size = w.heap.size + 1:=by simp
 rw [es] at k1;replace k0:=k0.ext hx1;have hxx:=hx0.trans hx1;have hcw:Q6s c l n 0 = c:=by
  unfold Q6s
  apply List.ext_getElem
  · simp
  · intro i h1 h2
    simp only [List.length_map,List.length_range] at h1;simp [has,ix,h1]
 clear hu hcell hl hx0 hx1 es;go_enter Tryz.func98,Tryz.ntmps98;go_wp2;change Code.wp _ _ _ _ ((w.alloc (.cells (chA c) 116)).alloc (.cells (chA []) 116));obtain ⟨W,hW⟩:∃ W,(w.alloc (.cells (chA c) 116)).alloc (.cells (chA []) 116) = W:=⟨_,rfl⟩;rw [hW] at k0 k1 hxx ⊢;have HW:=Lib.hid hxx;have HK1:=Lib.hid k1;have HK0:Hid (Blk W w.heap.size 116 (chA (Q6s c l n 0))):=by exact (by rw [hcw]; exact k0:Blk W w.heap.size 116 (chA (Q6s c l n 0)))
 clear hW k0 k1 hxx hcw
 go_loopw [11] (fun i wr=>∃ (k:Nat),k ≤ l.length ∧ i = .int .i64 k ∧ Blk wr w.heap.size 116 (chA (Q6s c l n k)) ∧ Blk wr (w.heap.size + 1) 116 (chA []) ∧ Below w.heap.size W wr) (fun i _=>l.length - (intOf i).toNat)
 case atStart=>exact ⟨0,Nat.zero_le _,rfl,HK0.out,HK1.out,Below.refl _ _⟩
 case round =>
  obtain ⟨k,hk,rfl,hb,hb1,hbel⟩:=hrel
  by_cases hlt:k < l.length
  · obtain ⟨b,off,rfl,hce⟩:=HC.out k hlt
    have hbw:b < w.heap.size:=World.block_lt_of_cell? w _ hce;replace hce:=(hbel.cell (p:=⟨b,off + k,none⟩) hbw).trans (HW.out.cell hce);have hin:=HL.out (ix l k) (by rw [Q8m hlt]; exact List.getElem_mem hlt)
    obtain ⟨m,hm⟩:∃ m:Nat,ix l k = (m:Int):=⟨(ix l k).toNat,by omega⟩
    have HWT:Hid (∀ i,ix (Q6s c l n (k + 1)) i = if i = m then n else ix (Q6s c l n k) i):=by exact (fun i=>Y8i hlt hm i (by omega):∀ i,ix (Q6s c l n (k + 1)) i = if i = m then n else ix (Q6s c l n k) i)
    rw [hm] at hce hin;have hm12:(m:Int) < 12:=by omega
    have hm2:m < 12:=by omega
    have nm:=hb.cell m;rw [X6w _ hm2] at nm;have nf:=hb.frozen m;have HB:=Lib.hid hb;have HB1:=Lib.hid (hb1.setOther (p:=⟨w.heap.size,m,none⟩) (by show w.heap.size + 1 ≠ w.heap.size; omega) (.int .i64 n))
    have HBE:=Lib.hid hbel;clear hb hb1 hbel hm hin;go_wp2;go_roundw
    case rel=>exact ⟨k + 1,by omega,by go_num,(by have h:=HB.out.set m (.int .i64 n); rw [Y7o (d:=Q6s c l n (k + 1)) hm2 (fun i _=>HWT.out i)] at h; exact h),HB1.out,HBE.out.setCell (p:=⟨w.heap.size,m,none⟩) (Nat.le_refl _) _⟩
    case measure=>simp [intOf]; omega
  · have hall:Q6s c l n k = Q0t c l n:=by unfold Q6s Q0t; rw [List.take_of_length_le (by omega)]
    rw [hall] at hb;have HB:=Lib.hid hb;have HB1:=Lib.hid hb1;have HBE:=Lib.hid hbel;clear hb hb1 hbel hall;go_wp2_with (first | (refine Q0j rfl _ _ rfl Tryz.Q6x Tryz.Q4a rfl HB.out rfl ?_) | (refine Q0d rfl _ _ _ rfl Tryz.Q4a rfl rfl HB1.out rfl rfl ?_ ?_; (focus (intro u hu; simp [chA] at hu; rcases hu with rfl | rfl | rfl | rfl | rfl | rfl | rfl | rfl | rfl | rfl | rfl | rfl <;> rfl)); intro w9 hb9 hl9 ho9))
    refine bodyPost_ret (Q3h Tryz.results98 rfl hb9 Tryz.Q6x Tryz.Q4a) rfl ?_;exact ⟨rfl,Below.trans (Below.trans HW.out HBE.out) (hl9 w.heap.size (by omega))⟩
set_option maxRecDepth 100000 in
set_option maxHeartbeats 1000000 in
theorem Z2a (w:World) (t:Tree) (c c0:List Int) (A G:Option Addr) (n cap m capg s:Nat) (hc:Small c) (hlen:c.length = t.size) (hs:s < 2 ^ 62) :
    Calls Tryz.prog 141 #[noV t c0 (.slice A n cap) (.slice G m capg),.int .i64 s,chV c] w fun e w'=>e = .returned (.int .i64 (partOf c s)) ∧ Ext w w':=by
 have HC:=Lib.hid hc;have HS:=Lib.hid hs;have hc12:=hc.len;have HLEN:=Lib.hid hlen;rw [hlen] at hc12;rw [Y4f];unfold noV;have k0:=Blk.made (w.alloc (.cells #[.int .i64 t.size,.slice A n cap,.int .i64 (ix c0 0),.int .i64 (ix c0 1),.int .i64 (ix c0 2),.int .i64 (ix c0 3),.int .i64 (ix c0 4),.int .i64 (ix c0 5),.int .i64 (ix c0 6),.int .i64 (ix c0 7),.int .i64 (ix c0 8),.int .i64 (ix c0 9),.int .i64 (ix c0 10),.int .i64 (ix c0 11),.int .i64 t.basics.length,.slice G m capg] 121)) 116 (chA c);have es:(w.alloc (.cells #[.int .i64 t.size,.slice A n cap,.int .i64 (ix c0 0),.int .i64 (ix c0 1),.int .i64 (ix c0 2),.int .i64 (ix c0 3),.int .i64 (ix c0 4),.int .i64 (ix c0 5),.int .i64 (ix c0 6),.int .i64 (ix c0 7),.int .i64 (ix c0 8),.int .i64 (ix c0 9),.int .i64 (ix c0 10),.int .i64 (ix c0 11),.int .i64 t.basics.length,.slice G m capg] 121)).heap.size = w.heap.size + 1:=by simp
 have hx:=(Ext.box w (.cells #[.int .i64 t.size,.slice A n cap,.int .i64 (ix c0 0),.int .i64 (ix c0 1),.int .i64 (ix c0 2),.int .i64 (ix c0 3),.int .i64 (ix c0 4),.int .i64 (ix c0 5),.int .i64 (ix c0 6),.int .i64 (ix c0 7),.int .i64 (ix c0 8),.int .i64 (ix c0 9),.int .i64 (ix c0 10),.int .i64 (ix c0 11),.int .i64 t.basics.length,.slice G m capg] 121)).trans (Ext.box (w.alloc (.cells #[.int .i64 t.size,.slice A n cap,.int .i64 (ix c0 0),.int .i64 (ix c0 1),.int .i64 (ix c0 2),.int .i64 (ix c0 3),.int .i64 (ix c0 4),.int .i64 (ix c0 5),.int .i64 (ix c0 6),.int .i64 (ix c0 7),.int .i64 (ix c0 8),.int .i64 (ix c0 9),.int .i64 (ix c0 10),.int .i64 (ix c0 11),.int .i64 t.basics.length,.slice G m capg] 121)) (.cells (chA c) 116));rw [es] at k0;clear hc hs hlen es;go_enter Tryz.func141,Tryz.ntmps141;go_wp2;change Code.wp _ _ _ _ ((w.alloc (.cells #[.int .i64 t.size,.slice A n cap,.int .i64 (ix c0 0),.int .i64 (ix c0 1),.int .i64 (ix c0 2),.int .i64 (ix c0 3),.int .i64 (ix c0 4),.int .i64 (ix c0 5),.int .i64 (ix c0 6),.int .i64 (ix c0 7),.int .i64 (ix c0 8),.int .i64 (ix c0 9),.int .i64 (ix c0 10),.int .i64 (ix c0 11),.int .i64 t.basics.length,.slice G m capg] 121)).alloc (.cells (chA c) 116));obtain ⟨W,hW⟩:∃ W,(w.alloc (.cells #[.int .i64 t.size,.slice A n cap,.int .i64 (ix c0 0),.int .i64 (ix c0 1),.int .i64 (ix c0 2),.int .i64 (ix c0 3),.int .i64 (ix c0 4),.int .i64 (ix c0 5),.int .i64 (ix c0 6),.int .i64 (ix c0 7),.int .i64 (ix c0 8),.int .i64 (ix c0 9),.int .i64 (ix c0 10),.int .i64 (ix c0 11),.int .i64 t.basics.length,.slice G m capg] 121)).alloc (.cells (chA c) 116) = W:=⟨_,rfl⟩;rw [hW] at k0 hx ⊢;have K0:=Lib.hid k0;have HX:=Lib.hid hx;clear hW k0 hx
 go_loop [7,12] (fun o i=>∃ (k:Nat),k ≤ t.size ∧ i = .int .i64 k ∧ o = .int .i64 (Q7f c s k)) (fun _ i=>t.size - (intOf i).toNat)
 case atStart=>exact ⟨0,Nat.zero_le _,rfl,rfl⟩
 case round =>
  obtain ⟨k,hk,rfl,rfl⟩:=hrel
  by_cases hlt:k < t.size
  · have n0:=K0.out.cell k
    rw [X6w _ (by omega)] at n0
    have hp:=X1b HC.out s (j:=k) (by rw [HLEN.out]; exact hk)
    have hp1:=X1b HC.out s (j:=k + 1) (by rw [HLEN.out]; omega)
    have hix:=HC.out.ix (j:=k) (by rw [HLEN.out]; exact hlt)
    have hb1:=Q9w HS.out k;have HST:Hid (Q7f c s (k + 1) = Q7f c s k * (if s.testBit k then ix c k else 16 - ix c k)):=by exact (rfl:Q7f c s (k + 1) = _)
    obtain ⟨p,hpe⟩:∃ p,Q7f c s k = p:=⟨_,rfl⟩;obtain ⟨x,hxe⟩:∃ x,ix c k = x:=⟨_,rfl⟩;rw [hpe,hxe] at HST;rw [hxe] at n0 hix;rw [HST.out] at hp1;rw [hpe] at hp ⊢;have hk12:k < 12:=by omega
    have hkI:(k:Int) < 12:=by omega
    clear hpe hxe;cases hb:s.testBit k with
    | true =>
      rw [hb] at HST hb1 hp1;simp only [if_true] at HST hp1;have HP1:=Lib.hid hp1;have hw:IntKind.i64.wrap (p * x) = p * x:=Q6d _ HP1.out.1 (by have:=HP1.out.2; omega)
      clear hp1 hb;go_wp2;go_round
      case rel=>exact ⟨k + 1,by omega,by go_num,by rw [HST.out]⟩
      case measure=>simp [intOf]; omega
    | false =>
      rw [hb] at HST hb1 hp1;simp only [Bool.false_eq_true,if_false] at HST hp1;have HP1:=Lib.hid hp1;have hw0:IntKind.i64.wrap (16 - x) = 16 - x:=Q6d _ (by omega) (by omega)
      have hw:IntKind.i64.wrap (p * (16 - x)) = p * (16 - x):=Q6d _ HP1.out.1 (by have:=HP1.out.2; omega)
      clear hp1 hb;go_wp2;go_round
      case rel=>exact ⟨k + 1,by omega,by go_num,by rw [HST.out]⟩
      case measure=>simp [intOf]; omega
  · go_wp2
    go_ret;exact ⟨Q1f (by unfold partOf; rw [HLEN.out,show k = t.size from by omega]),HX.out⟩
end Go.Proofs
namespace Go.Proofs
open Go.RowKit Go.Tw Go.Flow
set_option maxRecDepth 100000 in
set_option maxHeartbeats 800000 in
theorem Q7z (w:World) (a b:Int) (ha:0 ≤ a) (ha2:a ≤ 4611686018427387904) (hb:1 ≤ b) (hb2:b ≤ 4611686018427387904) :
    Calls Tryz.prog 99 #[.int .i64 a,.int .i64 b] w fun e w'=>e = .returned (.agg #[.int .i64 (lowest a b).num,.int .i64 (lowest a b).den]) ∧ Ext w w':=by
 have hw:=Ext.box w (.cells #[.int .i64 0,.int .i64 0] 59);have c0:=Q0z w #[.int .i64 0,.int .i64 0] 59 0;have c1:=Q0z w #[.int .i64 0,.int .i64 0] 59 1;have f0:=Q9x w #[.int .i64 0,.int .i64 0] 59 0;have f1:=Q9x w #[.int .i64 0,.int .i64 0] 59 1;have hsW:w.heap.size < (w.alloc (.cells #[.int .i64 0,.int .i64 0] 59)).heap.size:=by show _ < (w.heap.push _).size; rw [Array.size_push]; omega
 go_enter Tryz.func99,Tryz.ntmps99;go_wp2;obtain ⟨W,hW⟩:∃ W,w.alloc (.cells #[.int .i64 0,.int .i64 0] 59) = W:=⟨_,rfl⟩;rw [hW] at c0 c1 f0 f1 hsW hw ⊢;simp only [List.getElem?_toArray,List.getElem?_cons_zero,List.getElem?_cons_succ] at c0 c1;clear hW
 go_loopw [5,6] (fun x y wr=>∃ (p q:Int),x = .int .i64 p ∧ y = .int .i64 q ∧ 0 ≤ p ∧ 0 ≤ q ∧ p ≤ 4611686018427387904 ∧ q ≤ 4611686018427387904 ∧ (0 < p ∨ 0 < q) ∧ Int.gcd p q = Int.gcd a b ∧ Ext W wr) (fun _ y _=>(intOf y).toNat)
 case atStart=>exact ⟨a,b,by first | rfl | rw [show max a (-a) = a by omega],by first | rfl | rw [show max b (-b) = b by omega],ha,by omega,ha2,hb2,by omega,rfl,Ext.refl _⟩
 case round =>
  obtain ⟨p,q,rfl,rfl,hp,hq,hp2,hq2,hpq,hg,hx0⟩:=hrel
  by_cases hz:q = 0
  · subst hz
    have hpg:p = (Int.gcd a b:Int):=by rw [← hg,Int.gcd_zero]; omega
    have hdz:¬ p = 0:=by omega
    replace c0:=hx0.cell c0;replace c1:=hx0.cell c1;have HPG:=Lib.hid hpg;clear hg hpg;have hq1:a / p ≤ a:=Int.ediv_le_self _ ha;have hq2:b / p ≤ b:=Int.ediv_le_self _ (by omega)
    have hq3:0 ≤ a / p:=Int.ediv_nonneg ha hp;have hq4:0 ≤ b / p:=Int.ediv_nonneg (by omega) hp
    have hq5:a.tdiv p = a / p:=Int.tdiv_eq_ediv_of_nonneg ha;have hq6:b.tdiv p = b / p:=Int.tdiv_eq_ediv_of_nonneg (by omega)
    have hq7:IntKind.i64.wrap (a / p) = a / p:=wrap_in (by omega) (by omega)
    have hq8:IntKind.i64.wrap (b / p) = b / p:=wrap_in (by omega) (by omega)
    have hwr:=Nat.lt_of_lt_of_le hsW hx0.size;replace f0:=(hx0.frozen hsW).trans f0;replace f1:=(hx0.frozen hsW).trans f1;go_wp2;refine Flow.region [.plain,.plain,.plain,.plain,.plain,.plain,.plain,.last] [0,1,2,3,4,5,6,7] [[],[],[0,1],[],[],[3,4],[0,1,2,3,4,5],[0,1,2,3,4,5,6]] [7]
     [.is 0 (fun v=>.int .i64 a),.is 1 (fun v=>.int .i64 p),.is 2 (fun v=>.int .i64 (a / p)),.is 3 (fun v=>.int .i64 b),.is 4 (fun v=>.int .i64 p),.is 5 (fun v=>.int .i64 (b / p)),.is 6 (fun v=>.agg #[.int .i64 (a / p),.int .i64 (b / p)]),.none]
     [fun v w1 w'=>w'.cell? ⟨w.heap.size,0,none⟩ = some (.int .i64 (a / p)) ∧ w'.cell? ⟨w.heap.size,1,none⟩ = some (.int .i64 (b / p)) ∧ Below w.heap.size w1 w'] (by kernel_rfl) rfl (by kernel_rfl) ⟨?g0,?g1,?g2,?g3,?g4,?g5,?g6,?g7,trivial⟩ ?post
    case g0 =>
     intro v w1 hx;have c0:=hx.cell c0;have c1:=hx.cell c1;refine ⟨_,fun w=>?_,rfl⟩;go_simp
    case g1 =>
     intro v w1 hx;have c0:=hx.cell c0;have c1:=hx.cell c1;refine ⟨_,fun w=>?_,rfl⟩;go_simp
    case g2 =>
     intro v w1 hx (q0:v 0 = .int .i64 a) (q1:v 1 = .int .i64 p);have c0:=hx.cell c0;have c1:=hx.cell c1;refine ⟨_,fun w=>?_,rfl⟩;go_simp
    case g3 =>
     intro v w1 hx;have c0:=hx.cell c0;have c1:=hx.cell c1;refine ⟨_,fun w=>?_,rfl⟩;go_simp
    case g4 =>
     intro v w1 hx;have c0:=hx.cell c0;have c1:=hx.cell c1;refine ⟨_,fun w=>?_,rfl⟩;go_simp
    case g5 =>
     intro v w1 hx (q3:v 3 = .int .i64 b) (q4:v 4 = .int .i64 p);have c0:=hx.cell c0;have c1:=hx.cell c1;refine ⟨_,fun w=>?_,rfl⟩;go_simp
    case g6 =>
     intro v w1 hx (q0:v 0 = .int .i64 a) (q1:v 1 = .int .i64 p) (q2:v 2 = .int .i64 (a / p)) (q3:v 3 = .int .i64 b) (q4:v 4 = .int .i64 p) (q5:v 5 = .int .i64 (b / p));have c0:=hx.cell c0;have c1:=hx.cell c1;refine ⟨_,fun w=>?_,rfl⟩;go_simp
    case g7 =>
     intro v w1 hx (q0:v 0 = .int .i64 a) (q1:v 1 = .int .i64 p) (q2:v 2 = .int .i64 (a / p)) (q3:v 3 = .int .i64 b) (q4:v 4 = .int .i64 p) (q5:v 5 = .int .i64 (b / p)) (q6:v 6 = .agg #[.int .i64 (a / p),.int .i64 (b / p)]);intro wl hT;obtain rfl:wl = w1:=hT;intro bb hbb;subst hbb;have c0:=hx.cell c0;have c1:=hx.cell c1;intro K hK;have g0:=(hx.frozen (p:=⟨w.heap.size,0,none⟩) hwr).trans f0;have g1:=(hx.frozen (p:=⟨w.heap.size,1,none⟩) hwr).trans f1;go_simp;refine hK _ _ ⟨?_,?_,((Below.refl w.heap.size wl).setCell (p:=⟨w.heap.size,0,none⟩) (Nat.le_refl _) _).setCell (p:=⟨w.heap.size,1,none⟩) (Nat.le_refl _) _⟩
     · refine Eq.trans (World.cell?_setCell_other _ _ _ _ ?_) (World.cell?_setCell_same _ _ _ c0); intro h; cases h
     · refine World.cell?_setCell_same _ _ _ (Eq.trans (World.cell?_setCell_other _ _ _ _ ?_) c1); intro h; cases h
    case post =>
     intro v w1 hx (q0:v 0 = .int .i64 a) (q1:v 1 = .int .i64 p) (q2:v 2 = .int .i64 (a / p)) (q3:v 3 = .int .i64 b) (q4:v 4 = .int .i64 p) (q5:v 5 = .int .i64 (b / p)) (q6:v 6 = .agg #[.int .i64 (a / p),.int .i64 (b / p)]);intro w2 hE;replace hE:(fun v w1 w'=>w'.cell? ⟨w.heap.size,0,none⟩ = some (.int .i64 (a / p)) ∧ w'.cell? ⟨w.heap.size,1,none⟩ = some (.int .i64 (b / p)) ∧ Below w.heap.size w1 w') v w1 w2:=hE;simp only [Flow.acts,Act.put];go_simp;obtain ⟨e0,e1,e2⟩:=hE;go_wp2;refine bodyPost_ret (v:=.agg #[.int .i64 (a / p),.int .i64 (b / p)]) (by simp [results,Tryz.results99,go_sem,e0,e1]) rfl ?_
     exact ⟨by rw [HPG.out]; rfl,Below.trans ((hw.trans hx0.drew).trans hx) e2⟩
  · have hq0:0 < q:=by omega
    have hst:=Z1l p q hp hq0;have htm:p % q < q:=Int.emod_lt_of_pos p hq0;have htn:=Int.emod_nonneg p (show q ≠ 0 by omega)
    rw [Int.tmod_eq_emod_of_nonneg hp] at hst;go_wp2
    go_quiet (fail)
    all_goals go_wp2
    go_roundw
    case rel=>exact ⟨q,p % q,rfl,by go_num,by omega,htn,hq2,by omega,Or.inl hq0,by rw [hst,hg],hx0.drewN _⟩
    case measure=>exact (Int.toNat_lt_toNat hq0).2 htm
end Go.Proofs
namespace Go.Proofs
open Go.RowKit Go.Tw Go.Flow
theorem Q4h {F:Fence} {n0:Nat} {P:Program} {w:World} {ops:Array Oper} {rest:List Oper} {o:Oper} {a:Act} {Q:Exit → Act → World → Prop} (hw:Region.wanted o (yielded ops a.tmps) = true) (p:Operand) (T:TypeId) (hop:o.op = .load T p)
    (hA:∀ w,(isAgg T).run P w = .ok true w) {n:Nat} (hS:∀ w,(sizeOf T).run P w = .ok n w) {g:Nat} (hp:a.eval p = .pointer (some ⟨g,0,none⟩)) {BT:TypeId} {cs:Array Value} (hb:Blk w g BT cs) (hn:cs.size = n)
    (hK:wpListIn F n0 P ops Q rest (a.put o.dst (.agg cs)) w):wpListIn F n0 P ops Q (o :: rest) a w:=by
 subst hn;refine BigFrame.wpListIn_want hw fun K' hK'=>?_;unfold Oper.wpIn;refine ⟨?_,?_⟩
 · simp [Oper.about,hop]
 · rw [Oper.semAt_plain F _ _ (by rw [hop]; intro c hc'; cases hc')]
   have hr:(execOp a.eval o).run P w = .ok (.value (.agg cs)) w:=by
    unfold execOp;simp only [hop,hp,Instr.loadAt,Instr.sureAddr,Sem.run_bind,Sem.run_pure,Result.andThen_ok,Q3t hb hA hS]
   rw [hr];exact hK' _ _ hK
theorem Q0n {P:Program} {K:Value → World → Prop} {o:Oper} {a:Act} {w:World} (p:Operand) (T:TypeId) (ho:o.op = .load T p) (hA:∀ w,(isAgg T).run P w = .ok true w) {n:Nat} (hS:∀ w,(sizeOf T).run P w = .ok n w)
    {g:Nat} (hp:a.eval p = .pointer (some ⟨g,0,none⟩)) {BT:TypeId} {cs:Array Value} (hb:Blk w g BT cs) (hn:cs.size = n) (h:K (.agg cs) w):gives P K ((execOp a.eval o).run P w):=by
 subst hn;unfold execOp;simp only [ho,hp,Instr.loadAt,Instr.sureAddr,Sem.run_bind,Sem.run_pure,Result.andThen_ok,Q3t hb hA hS];exact h
theorem Blk.own {β:Type} (g:Nat) (T:TypeId) (cs:β → Array Value):Own (fun s W=>Blk W g T (cs s)):=fun s _ _ _ hs hg hr=>(grownBy_keeps_cells (o:=.cells (cs s) T) hg hr hs rfl).trans hs
theorem Q4b {W W':World} (h:Ext W W'):KeepsOthers W W':=⟨h.size,fun k o hk _=>by rw [h.block k (Array.getElem?_eq_some_iff.1 hk).1]; exact hk⟩
end Go.Proofs
