/- Contracts: which nodes fail; cut sets and path sets as bits. Contracts: cut sets and path sets as bits. Maps with string keys that a call makes, as lists of pairs: look-ups and stores. Contracts: the kinds of gates, what one of them needs, a gate's mask and need, its error. A list of lists that a call makes and appends to. The contract of the reference's sets, in order. The contract of the reference's weight. -/
import Derived.Test.YtghcnlbkghaaeaaDoorPv04
import Derived.Test.YtghcnlbkghaaeaaDoorPv03
import Derived.Maps.OwnSet
import Derived.MapKept
import Derived.IntWalk
set_option maxRecDepth 1000000
set_option maxHeartbeats 64000000
set_option linter.unusedVariables false
set_option linter.unusedSimpArgs false
set_option linter.constructorNameAsVariable false
namespace Go.Proofs
open Go.RowKit Go.Tw Go.Flow
theorem Q4y {s:Nat} (hs:s < 2 ^ 62) (i:Nat):(bits .and .i64 ((s:Int) / 2 ^ i) 1 == 1) = s.testBit i:=by
 have h1:(s:Int) / 2 ^ i = ((s / 2 ^ i:Nat):Int):=by simp
 have h2:bits .and .i64 ((s / 2 ^ i:Nat):Int) 1 = ((s / 2 ^ i &&& 1:Nat):Int):=X9p (a:=s / 2 ^ i) (b:=1) (Nat.lt_of_le_of_lt (Nat.div_le_self _ _) hs) (by decide)
 rw [h1,h2,Nat.and_one_is_mod,Y2m];have h3:s / 2 ^ i % 2 = 0 ∨ s / 2 ^ i % 2 = 1:=by omega
 rcases h3 with h | h <;> rw [h] <;> rfl
theorem X2w (w:World) (fv gv:Value) (t:Tree) (c:List Int) (s:Nat) (hv:Valid t) (hs:s < 2 ^ t.size) (hn:X6f w fv gv t) :
    Calls Tryd.prog 98 #[noV t c fv gv,.int .i64 s] w fun e w'=>e = .returned (.int .i64 (Q1l (t.states (evN s)):Nat)) /\ Ext w w':=by
 obtain ⟨hf,hg⟩:=hn;obtain ⟨A,cap,rfl,hl1,hcap,hc⟩:=hf.opened;obtain ⟨A2,cap2,rfl,hl2,hcap2,hc2⟩:=hg.opened;rw [Q1w] at hl1 hcap hc;have hsz:=hv.size;have hng:=hv.ng';have hnb:=hv.nb;have HV:=Lib.hid hv;have HC:=Lib.hid hc;have HC2:=Lib.hid hc2;have hsb:t.basics.length <= 12:=by unfold Tree.size at hsz; omega
 have hs12:s < 2 ^ 62:=Nat.lt_of_lt_of_le hs (Nat.pow_le_pow_right (by omega) (by omega))
 have HS:=Lib.hid hs12;clear hf hg hc hc2 hv hs hs12;unfold noV;rw [Q1w];go_enter Tryd.func98,Tryd.ntmps98;go_wp2;obtain ⟨W,hW⟩:∃ W,w.alloc (.cells #[.int .i64 t.size,.slice A t.size cap,.int .i64 (ix c 0),.int .i64 (ix c 1),.int .i64 (ix c 2),.int .i64 (ix c 3),.int .i64 (ix c 4),.int .i64 (ix c 5),.int .i64 (ix c 6),.int .i64 (ix c 7),.int .i64 (ix c 8),.int .i64 (ix c 9),.int .i64 (ix c 10),.int .i64 (ix c 11),.int .i64 t.basics.length,.slice A2 t.gates.length cap2] 131) = W:=⟨_,rfl⟩;have hxW:Ext w W:=by rw [<- hW]; exact Ext.box _ _
 have n14:W.cell? ⟨w.heap.size,14,none⟩ = some (.int .i64 t.basics.length):=by rw [<- hW]; exact Q0d _ _ _ 14
 have n15:W.cell? ⟨w.heap.size,15,none⟩ = some (.slice A2 t.gates.length cap2):=by rw [<- hW]; exact Q0d _ _ _ 15
 rw [hW];clear hW
 go_loop [5,14] (fun o i=>∃ (k:Nat),k <= t.size /\ i = .int .i64 k /\ o = .int .i64 (t.X1p s k:Nat)) (fun _ i=>t.size - (intOf i).toNat)
 case atStart=>exact ⟨0,Nat.zero_le _,rfl,rfl⟩
 case round =>
  obtain ⟨k,hk,rfl,rfl⟩:=hrel
  by_cases hlt:k < t.size
  . obtain ⟨b,off,rfl,hcell⟩:=HC.out k hlt
    rw [Y0i hlt] at hcell;replace hcell:=hxW.cell hcell;have hm:=HV.out.X0r hlt;have ho:=HV.out.X1x s k hk;have hp12:(2:Nat) ^ t.basics.length <= 2 ^ 12:=Nat.pow_le_pow_right (by omega) hsb
    have hor:=Y2y (a:=t.X1p s k) (b:=t.maskAt k) (by omega) (by omega)
    have HO:Hid (t.X1p s (k + 1) = if s.testBit k then t.X1p s k ||| t.maskAt k else t.X1p s k):=by exact (rfl:t.X1p s (k + 1) = _)
    have hb1:=Q4y HS.out k;obtain ⟨o,he⟩:∃ o,t.X1p s k = o:=⟨_,rfl⟩;obtain ⟨m,hme⟩:∃ m,t.maskAt k = m:=⟨_,rfl⟩;rw [he,hme] at hor HO;rw [hme] at hcell;rw [he];clear he hme hm ho hp12;cases hb:s.testBit k with
    | true =>
      rw [hb] at HO hb1;clear hb;go_wp2;go_round
      case rel=>exact ⟨k + 1,by omega,by go_num,by rw [HO.out]; rfl⟩
      case measure=>simp [intOf]; omega
    | false =>
      rw [hb] at HO hb1;clear hb;go_wp2;go_round
      case rel=>exact ⟨k + 1,by omega,by go_num,by rw [HO.out]; rfl⟩
      case measure=>simp [intOf]; omega
  . have e0:t.X1p s k = Q1l (t.gatesB (evN s) 0):=by rw [show k = t.size from by omega,HV.out.X9y]; rfl
    rw [e0];clear e0;go_wp2
    go_loopw [5,31] (fun o i wr=>∃ (g:Nat),g <= t.gates.length /\ i = .int .i64 g /\ o = .int .i64 (Q1l (t.gatesB (evN s) g):Nat) /\ Ext W wr) (fun _ i _=>t.gates.length - (intOf i).toNat)
    case atStart=>exact ⟨0,Nat.zero_le _,rfl,rfl,Ext.refl _⟩
    case round =>
     obtain ⟨g,hg,rfl,rfl,hx⟩:=hrel;replace n14:=hx.cell n14;replace n15:=hx.cell n15
     by_cases hlg:g < t.gates.length
     . obtain ⟨b,off,rfl,hbl,g0,g1⟩:=HC2.out g hlg
       replace g0:=hx.cell (hxW.cell g0);replace g1:=hx.cell (hxW.cell g1);have hm:=HV.out.X9s hlg;have ho:=HV.out.X3w (evN s) hg;have HST:=Lib.hid (HV.out.step (evN s) hlg);have hand:=X9p (a:=Q1l (t.gatesB (evN s) g)) (b:=(t.gt g).1) (by omega) (by omega)
       have hor:=X6i (a:=Q1l (t.gatesB (evN s) g)) (n:=t.basics.length + g) (by omega) (by omega)
       obtain ⟨o,he⟩:∃ o,Q1l (t.gatesB (evN s) g) = o:=⟨_,rfl⟩;obtain ⟨m,hme⟩:∃ m,(t.gt g).1 = m:=⟨_,rfl⟩;obtain ⟨q,hq⟩:∃ q,(t.gt g).2 = q:=⟨_,rfl⟩;rw [he,hme,hq] at HST;rw [he,hme] at hand;rw [he] at ho hor;rw [hme] at g0 hm;rw [hq] at g1;rw [he];clear he hme hq hbl;have hlt64:o &&& m < 2 ^ 64:=Nat.lt_of_le_of_lt Nat.and_le_right (by omega)
       obtain ⟨r,hr⟩:∃ r,o &&& m = r:=⟨_,rfl⟩;rw [hr] at HST hand hlt64;clear hr;obtain ⟨p,hp⟩:∃ p,Q4k r 64 = p:=⟨_,rfl⟩;rw [hp] at HST;have HON:Hid (∀ w',Calls Tryd.prog 125 #[.int .u64 r] w' fun e w''=>e = .returned (.int .i64 (p:Nat)) /\ w' = w''):=by
        exact (by intro w'; rw [<- hp]; exact X9k w' r hlt64:∀ w',Calls Tryd.prog 125 #[.int .u64 r] w' fun e w''=>e = .returned (.int .i64 (p:Nat)) /\ w' = w'')
       have hwr:IntKind.u64.wrap (r:Int) = (r:Int):=Q6w (by omega)
       clear hp hlt64 hm ho
       go_light
       go_wp2;obtain ⟨W2,hW2⟩:∃ W2,wr.alloc (.cells #[.int .i64 m,.int .i64 q] 171) = W2:=⟨_,rfl⟩;have hx2:Ext wr W2:=by rw [<- hW2]; exact Ext.box _ _
       have k0:W2.cell? ⟨wr.heap.size,0,none⟩ = some (.int .i64 m):=by rw [<- hW2]; exact Q0d _ _ _ 0
       have k1:W2.cell? ⟨wr.heap.size,1,none⟩ = some (.int .i64 q):=by rw [<- hW2]; exact Q0d _ _ _ 1
       rw [hW2];replace n14:=hx2.cell n14;have hxr:=hx.trans hx2;clear hW2;refine Flow.Q3y [.p,.p,.w,.p,.w,.w,.p,.w,.p] [0,1,2,3,4,5,6,7,8] [[],[],[1],[0,2],[3],[4],[],[6],[5,7]]
        [.c 0 (.int .i64 (o:Nat)),.c 1 (.pointer (some ⟨wr.heap.size,0,none⟩)),.c 2 (.int .i64 (m:Nat)),.c 3 (.int .i64 (r:Nat)),.c 4 (.int .u64 (r:Nat)),.c 5 (.int .i64 (p:Nat)),.c 6 (.pointer (some ⟨wr.heap.size,1,none⟩)),.c 7 (.int .i64 q),.c 8 (.bool (decide (q <= (p:Int))))]
        (by kernel_rfl) rfl (by kernel_rfl) ⟨?g0,?g1,?g2,?g3,?g4,?g5,?g6,?g7,?g8,trivial⟩ ?post
       case g0 | g1 | g6=>
        intro v w1 hx;refine ⟨_,fun w=>?_,rfl⟩;go_simp
       case g2 | g4 | g7=>
        intro v w1 hx;(repeat intro (zq:v _ = _));have k0:=hx.cell k0;have k1:=hx.cell k1;intro K hK;go_simp;exact hK _ _ (Ext.refl _) rfl
       case g3 | g8=>
        intro v w1 hx;(repeat intro (zq:v _ = _));refine ⟨_,fun w=>?_,rfl⟩;go_simp
       case g5=>
        intro v w1 hx;(repeat intro (zq:v _ = _));have k0:=hx.cell k0;have k1:=hx.cell k1;intro K hK;go_simp;refine Q0b (HON.out _) ?_;rintro e w2 ⟨rfl,rfl⟩;exact ⟨_,rfl,hK _ _ (Ext.refl _) rfl⟩
       case post =>
        intro v w1 hx;(iterate 9 intro (zq:v _ = _));simp only [Flow.All,Flow.acts,Act.put];go_simp;replace n14:=((Ext.refl W2).drew.trans hx).cell n14
        by_cases hd:q <= (p:Int)
        . rw [if_pos hd] at HST
          rw [decide_eq_true hd];clear hd;go_wp2;go_roundw
          case rel=>exact ⟨g + 1,by omega,by go_num,by rw [HST.out],hxr.trans ((Ext.refl W2).drew.trans hx)⟩
          case measure=>simp [intOf]; omega
        . rw [if_neg hd] at HST
          rw [decide_eq_false hd];clear hd;go_wp2;go_roundw
          case rel=>exact ⟨g + 1,by omega,by go_num,by rw [HST.out],hxr.trans ((Ext.refl W2).drew.trans hx)⟩
          case measure=>simp [intOf]; omega
     . go_wp2
       go_ret;exact ⟨ret_int (by rw [show g = t.gates.length from by omega]; rfl),hxW.trans hx⟩
end Go.Proofs
namespace Go.Proofs
open Go.RowKit Go.Tw Go.Flow
structure X0a (w:World) (g:Nat) (t:Tree) (c:List Int) (fv gv:Value):Prop where
 n0:w.cell? ⟨g,0,none⟩ = some (.int .i64 t.size)
 n1:w.cell? ⟨g,1,none⟩ = some (fv)
 n2:w.cell? ⟨g,2,none⟩ = some (.int .i64 (ix c 0))
 n3:w.cell? ⟨g,3,none⟩ = some (.int .i64 (ix c 1))
 n4:w.cell? ⟨g,4,none⟩ = some (.int .i64 (ix c 2))
 n5:w.cell? ⟨g,5,none⟩ = some (.int .i64 (ix c 3))
 n6:w.cell? ⟨g,6,none⟩ = some (.int .i64 (ix c 4))
 n7:w.cell? ⟨g,7,none⟩ = some (.int .i64 (ix c 5))
 n8:w.cell? ⟨g,8,none⟩ = some (.int .i64 (ix c 6))
 n9:w.cell? ⟨g,9,none⟩ = some (.int .i64 (ix c 7))
 n10:w.cell? ⟨g,10,none⟩ = some (.int .i64 (ix c 8))
 n11:w.cell? ⟨g,11,none⟩ = some (.int .i64 (ix c 9))
 n12:w.cell? ⟨g,12,none⟩ = some (.int .i64 (ix c 10))
 n13:w.cell? ⟨g,13,none⟩ = some (.int .i64 (ix c 11))
 n14:w.cell? ⟨g,14,none⟩ = some (.int .i64 t.basics.length)
 n15:w.cell? ⟨g,15,none⟩ = some (gv)
theorem X0a.ext {w w':World} {g:Nat} {t:Tree} {c:List Int} {fv gv:Value} (h:X0a w g t c fv gv) (hx:Ext w w'):X0a w' g t c fv gv :=
 ⟨hx.cell h.n0,hx.cell h.n1,hx.cell h.n2,hx.cell h.n3,hx.cell h.n4,hx.cell h.n5,hx.cell h.n6,hx.cell h.n7,hx.cell h.n8,hx.cell h.n9,hx.cell h.n10,hx.cell h.n11,hx.cell h.n12,hx.cell h.n13,hx.cell h.n14,hx.cell h.n15⟩
theorem X0a.new (w:World) (T:TypeId) (t:Tree) (c:List Int) (fv gv:Value):X0a (w.alloc (.cells #[.int .i64 t.size,fv,.int .i64 (ix c 0),.int .i64 (ix c 1),.int .i64 (ix c 2),.int .i64 (ix c 3),.int .i64 (ix c 4),.int .i64 (ix c 5),.int .i64 (ix c 6),.int .i64 (ix c 7),.int .i64 (ix c 8),.int .i64 (ix c 9),.int .i64 (ix c 10),.int .i64 (ix c 11),.int .i64 t.basics.length,gv] T)) w.heap.size t c fv gv :=
 ⟨Q0d _ _ _ 0,Q0d _ _ _ 1,Q0d _ _ _ 2,Q0d _ _ _ 3,Q0d _ _ _ 4,Q0d _ _ _ 5,Q0d _ _ _ 6,Q0d _ _ _ 7,Q0d _ _ _ 8,Q0d _ _ _ 9,Q0d _ _ _ 10,Q0d _ _ _ 11,Q0d _ _ _ 12,Q0d _ _ _ 13,Q0d _ _ _ 14,Q0d _ _ _ 15⟩
theorem Q5v {P:Program} {w:World} {g:Nat} (cs:Nat -> Value):∀ (n i:Nat) (acc:Array Value),(∀ k,k < n -> w.cell? ⟨g,i + k,none⟩ = some (cs (i + k))) ->
    (loadCellsFrom ⟨g,0,none⟩ i n acc).run P w = .ok (acc ++ ((List.range' i n).map cs).toArray) w
 | 0,i,acc,_=>by simp [loadCellsFrom]
 | n + 1,i,acc,h=>by
   have h0:=h 0 (by omega)
   rw [Nat.add_zero] at h0;have ea:(⟨g,0,none⟩:Addr).add i = ⟨g,i,none⟩:=by rw [addr_add,Nat.zero_add]
   rw [loadCellsFrom,ea];simp only [Sem.run_bind,load,Sem.run,h0,Result.andThen_ok];rw [Q5v cs n (i + 1) _ (fun k hk=>by have:=h (k + 1) (by omega); rwa [show i + (k + 1) = i + 1 + k from by omega] at this)]
   simp [List.range'_succ]
theorem Q8f {w:World} {g:Nat} {t:Tree} {c:List Int} {fv gv:Value} (R:X0a w g t c fv gv):(loadVar 131 ⟨g,0,none⟩).run Tryd.prog w = .ok (noV t c fv gv) w:=by
 have h1:(isAgg 131).run Tryd.prog w = .ok true w:=by kernel_rfl
 have h2:(sizeOf 131).run Tryd.prog w = .ok 16 w:=by kernel_rfl
 have h3:(loadCells ⟨g,0,none⟩ 16).run Tryd.prog w = .ok (noV t c fv gv).cells w:=by
  obtain ⟨n0,n1,n2,n3,n4,n5,n6,n7,n8,n9,n10,n11,n12,n13,n14,n15⟩:=R;have:=Q5v (P:=Tryd.prog) (w:=w) (g:=g) (fun k=>((noV t c fv gv).cells[k]?).getD undef) 16 0 #[] (fun k hk=>by
   rw [Nat.zero_add];have:k = 0 ∨ k = 1 ∨ k = 2 ∨ k = 3 ∨ k = 4 ∨ k = 5 ∨ k = 6 ∨ k = 7 ∨ k = 8 ∨ k = 9 ∨ k = 10 ∨ k = 11 ∨ k = 12 ∨ k = 13 ∨ k = 14 ∨ k = 15:=by omega
   rcases this with rfl | rfl | rfl | rfl | rfl | rfl | rfl | rfl | rfl | rfl | rfl | rfl | rfl | rfl | rfl | rfl <;> assumption)
  exact this
 unfold loadVar;simp only [Sem.run_bind,h1,h2,h3,Result.andThen_ok,if_true,Sem.run_pure];rfl
theorem Q6m {w:World} {g:Nat} {t:Tree} {c:List Int} {fv gv:Value} (R:X0a w g t c fv gv):(Instr.loadAt 131 (.pointer (some ⟨g,0,none⟩))).run Tryd.prog w = .ok (noV t c fv gv) w:=by
 unfold Instr.loadAt;simp only [Sem.run_bind,Instr.sureAddr,Sem.run_pure,Result.andThen_ok,Q8f R]
theorem Q6l {K:Value -> World -> Prop} {o:Oper} {a:Act} {w:World} (p:Operand) (ho:o.op = .load 131 p) {g:Nat} (hp:a.eval p = .pointer (some ⟨g,0,none⟩)) {t:Tree} {c:List Int} {fv gv:Value} (R:X0a w g t c fv gv)
    (h:K (noV t c fv gv) w):gives Tryd.prog K ((execOp a.eval o).run Tryd.prog w):=by
 unfold execOp;simp only [ho,hp,Sem.run_bind,Q6m R,Result.andThen_ok];exact h
theorem X7s (t:Tree) (ev:Nat -> Bool):(Q1l (t.states ev)).testBit (t.nodes - 1) = t.fails ev:=Q1n _ _
theorem Q9k (w:World) (fv gv:Value) (t:Tree) (c:List Int) (s:Nat) (hv:Valid t) (hs:s < 2 ^ t.size) (hn:X6f w fv gv t) :
    Calls Tryd.prog 66 #[noV t c fv gv,.int .i64 s] w fun e w'=>e = .returned (.bool (t.fails (evN s))) /\ Ext w w':=by
 have HN:=Lib.hid hn;obtain ⟨A2,cap2,hgv,hl2,hcap2,_⟩:=hn.gates.opened;have hsz:=hv.size;have hng:=hv.ng';have hnb:=hv.nb;have hng1:=hv.ng;have HV:=Lib.hid hv;have HS:=Lib.hid hs;have hsb:t.basics.length <= 12:=by unfold Tree.size at hsz; omega
 obtain ⟨M,hM⟩:∃ M,t.nodes = M + 1:=⟨t.nodes - 1,by unfold Tree.nodes; omega⟩
 have hM1:(t.basics.length:Int) + (t.gates.length:Int) - 1 = (M:Int):=by unfold Tree.nodes at hM; omega
 have hwM:IntKind.i64.wrap (M:Int) = (M:Int):=Q2x _ (by omega) (by unfold Tree.nodes at hM; omega)
 have hwS:IntKind.i64.wrap ((t.basics.length:Int) + (t.gates.length:Int)) = (t.basics.length:Int) + (t.gates.length:Int):=Q2x _ (by omega) (by omega)
 have hM2:M < 62:=by unfold Tree.nodes at hM; omega
 have hFB:Hid ((Q1l (t.states (evN s))).testBit M = t.fails (evN s)):=by
  exact (by have:=X7s t (evN s); rwa [hM,Nat.add_sub_cancel] at this:(Q1l (t.states (evN s))).testBit M = t.fails (evN s))
 have hX:Q1l (t.states (evN s)) < 2 ^ 62:=Nat.lt_of_lt_of_le (hv.X3w (evN s) (Nat.le_refl _)) (by decide)
 have HB:=X0a.new w 131 t c fv gv;obtain ⟨X,hXe⟩:∃ X,Q1l (t.states (evN s)) = X:=⟨_,rfl⟩;have HCF:Hid (∀ w',X6f w' fv gv t -> Calls Tryd.prog 98 #[noV t c fv gv,.int .i64 s] w' fun e w''=>e = .returned (.int .i64 (X:Nat)) /\ Ext w' w''):=by
  exact (by intro w' h; rw [<- hXe]; exact X2w _ _ _ t c s hv hs h:∀ w',X6f w' fv gv t -> Calls Tryd.prog 98 #[noV t c fv gv,.int .i64 s] w' fun e w''=>e = .returned (.int .i64 (X:Nat)) /\ Ext w' w'')
 rw [hXe] at hX hFB;have hb1:=Q4y hX M;rw [hFB.out] at hb1;subst hgv;clear hn hv hs hM hXe hX;unfold noV;go_enter Tryd.func66,Tryd.ntmps66;go_wp2;have hxW:=Ext.box w (.cells #[.int .i64 t.size,fv,.int .i64 (ix c 0),.int .i64 (ix c 1),.int .i64 (ix c 2),.int .i64 (ix c 3),.int .i64 (ix c 4),.int .i64 (ix c 5),.int .i64 (ix c 6),.int .i64 (ix c 7),.int .i64 (ix c 8),.int .i64 (ix c 9),.int .i64 (ix c 10),.int .i64 (ix c 11),.int .i64 t.basics.length,.slice A2 t.gates.length cap2] 131);obtain ⟨W,hW⟩:∃ W,w.alloc (.cells #[.int .i64 t.size,fv,.int .i64 (ix c 0),.int .i64 (ix c 1),.int .i64 (ix c 2),.int .i64 (ix c 3),.int .i64 (ix c 4),.int .i64 (ix c 5),.int .i64 (ix c 6),.int .i64 (ix c 7),.int .i64 (ix c 8),.int .i64 (ix c 9),.int .i64 (ix c 10),.int .i64 (ix c 11),.int .i64 t.basics.length,.slice A2 t.gates.length cap2] 131) = W:=⟨_,rfl⟩;rw [hW] at HB hxW ⊢;clear hW;have hxd:=(Ext.refl W).drew;refine Flow.Q3y [.w,.p,.w,.p,.w,.p,.w,.p,.p,.p,.p,.p,.p,.p] [0,1,2,3,4,5,6,7,8,9,10,11,12,13] [[],[],[0,1],[],[3],[],[5],[6],[4,7],[8],[2,9],[10],[11],[0,1,2,3,4,5,6,7,8,9,10,11,12]]
  [.c 0 (noV t c fv (.slice A2 t.gates.length cap2)),.c 1 (.int .i64 s),.c 2 (.int .i64 (X:Nat)),.c 3 (.pointer (some ⟨w.heap.size,14,none⟩)),.c 4 (.int .i64 t.basics.length),.c 5 (.pointer (some ⟨w.heap.size,15,none⟩)),.c 6 (.slice A2 t.gates.length cap2),.c 7 (.int .i64 t.gates.length),.c 8 (.int .i64 ((t.basics.length:Int) + (t.gates.length:Int))),.c 9 (.int .i64 (M:Int)),.c 10 (.int .i64 ((X:Int) / 2 ^ M)),.c 11 (.int .i64 (bits .and .i64 ((X:Int) / 2 ^ M) 1)),.c 12 (.bool (t.fails (evN s))),.c 13 (.bool (t.fails (evN s)))]
  (by kernel_rfl) rfl (by kernel_rfl) ⟨?g0,?g1,?g2,?g3,?g4,?g5,?g6,?g7,?g8,?g9,?g10,?g11,?g12,?g13,trivial⟩ ?post
 case g0=>
  intro v w1 hx;intro K hK;exact Q6l _ rfl (by go_simp) (HB.ext (hxd.trans hx)) (hK _ _ (Ext.refl _) rfl)
 case g1 | g3 | g5=>
  intro v w1 hx;refine ⟨_,fun w=>?_,rfl⟩;go_simp
 case g2=>
  intro v w1 hx;(repeat intro (zq:v _ = _));intro K hK;go_simp;refine Q0b (HCF.out _ (HN.out.ext (hxW.trans ((Ext.refl W).drew.trans hx)))) ?_;rintro e w2 ⟨rfl,hx2⟩;exact ⟨_,rfl,hK _ _ hx2 rfl⟩
 case g4=>
  intro v w1 hx;(repeat intro (zq:v _ = _));have n14:=(HB.ext (hxd.trans hx)).n14;intro K hK;go_simp;exact hK _ _ (Ext.refl _) rfl
 case g6=>
  intro v w1 hx;(repeat intro (zq:v _ = _));have n15:=(HB.ext (hxd.trans hx)).n15;intro K hK;go_simp;exact hK _ _ (Ext.refl _) rfl
 case g7 | g8 | g9 | g10 | g11 | g12 | g13=>
  intro v w1 hx;(repeat intro (zq:v _ = _));refine ⟨_,fun w=>?_,rfl⟩;go_simp
 case post =>
  intro v w1 hx;(iterate 14 intro (zq:v _ = _));simp only [Flow.All,Flow.acts,Act.put];go_simp;go_wp2;go_ret;exact ⟨rfl,hxW.trans ((Ext.refl W).drew.trans hx)⟩
end Go.Proofs
namespace Go.Tw
open Go.RowKit Go.Flow
def Q2c (s:ByteArray):List (ByteArray × Value) -> Option Value
 | []=>none
 | p :: l=>if (s == p.1) = true then some p.2 else Q2c s l
def X6e (s:ByteArray) (v:Value):List (ByteArray × Value) -> List (ByteArray × Value)
 | []=>[(s,v)]
 | p :: l=>if (s == p.1) = true then (s,v) :: l else p :: X6e s v l
def Q1f (w:World) (b:Nat) (l:List (ByteArray × Value)):Prop :=
 ∃ a clock,w.heap[b]? = some (.map a clock) /\ a.toList.map (fun e=>(e.key,e.val)) = l.map fun p=>(Value.string p.1,p.2)
theorem Q1f.made (w:World):Q1f (w.alloc (.map #[] 0)) w.heap.size []:=⟨#[],0,by show (w.heap.push _)[w.heap.size]? = _; simp,rfl⟩
theorem Q1f.ext {w w':World} {b:Nat} {l:List (ByteArray × Value)} (h:Q1f w b l) (hx:Ext w w'):Q1f w' b l:=by
 obtain ⟨a,c,hb,he⟩:=h;exact ⟨a,c,by rw [Below.block hx b (Array.getElem?_eq_some_iff.1 hb).1]; exact hb,he⟩
theorem Q1f.lt {w:World} {b:Nat} {l:List (ByteArray × Value)} (h:Q1f w b l):b < w.heap.size:=by
 obtain ⟨a,c,hb,_⟩:=h;exact (Array.getElem?_eq_some_iff.1 hb).1
theorem Q7b (s:ByteArray):∀ (es:List MapEntry) (l:List (ByteArray × Value)) (i:Nat),es.map (fun e=>(e.key,e.val)) = l.map (fun p=>(Value.string p.1,p.2)) ->
    ∃ r,Instr.findNow .string (.string s) es i = some r /\ r.map (·.2) = Q2c s l
 | [],[],i,_=>⟨none,rfl,rfl⟩
 | [],_ :: _,_,h=>by simp at h
 | _ :: _,[],_,h=>by simp at h
 | e :: es,p :: l,i,h=>by
   simp only [List.map_cons,List.cons.injEq,Prod.mk.injEq] at h;obtain ⟨⟨h1,h2⟩,h3⟩:=h;unfold Instr.findNow Q2c;simp only [h1,Instr.sameNow,h2];cases hs:(s == p.1) with
   | true=>exact ⟨some (i,p.2),by simp,by simp⟩
   | false =>
     obtain ⟨r,hr,hf⟩:=Q7b s es l (i + 1) h3;exact ⟨r,by simpa using hr,by simpa using hf⟩
theorem X9g (s:ByteArray):(s == s) = true:=str_eq rfl
theorem X3l {a b:ByteArray} (h:(a == b) = true):a = b:=by
 cases hb:decide (a = b) with
 | true=>exact of_decide_eq_true hb
 | false=>rw [str_ne (of_decide_eq_false hb)] at h; cases h
theorem Q8q (s:ByteArray):∀ (es:List MapEntry) (l:List (ByteArray × Value)) (i:Nat),es.map (fun e=>(e.key,e.val)) = l.map (fun p=>(Value.string p.1,p.2)) ->
    (Instr.findNow .string (.string s) es i = some none /\ ∀ v,X6e s v l = l ++ [(s,v)]) ∨
    (∃ j x,Instr.findNow .string (.string s) es i = some (some (i + j,x)) /\ j < es.length /\ (∃ e,es[j]? = some e /\ e.key = .string s) /\ ∀ v e,e.key = Value.string s -> e.val = v ->
     (es.set j e).map (fun e=>(e.key,e.val)) = (X6e s v l).map (fun p=>(Value.string p.1,p.2)))
 | [],[],i,_=>.inl ⟨rfl,fun v=>rfl⟩
 | [],_ :: _,_,h=>by simp at h
 | _ :: _,[],_,h=>by simp at h
 | e :: es,p :: l,i,h=>by
   simp only [List.map_cons,List.cons.injEq,Prod.mk.injEq] at h;obtain ⟨⟨h1,h2⟩,h3⟩:=h;cases hs:(s == p.1) with
   | true =>
     have hsp:=X3l hs;refine .inr ⟨0,e.val,?_,by simp,⟨e,rfl,by rw [h1,hsp]⟩,fun v e' h4 h5=>?_⟩
     . unfold Instr.findNow
       simp only [h1,Instr.sameNow,hs]; rfl
     . unfold X6e
       rw [if_pos hs];simp [h4,h5,h3]
   | false =>
     have hn:¬ (s == p.1) = true:=by rw [hs]; simp
     rcases Q8q s es l (i + 1) h3 with ⟨ha,hb⟩ | ⟨j,x,ha,hj,⟨e0,he0,hk0⟩,hb⟩
     . refine .inl ⟨?_,fun v=>?_⟩
       . unfold Instr.findNow
         simp only [h1,Instr.sameNow,hs]; exact ha
       . unfold X6e
         rw [if_neg hn,hb v]; rfl
     . refine .inr ⟨j + 1,x,?_,by simp; omega,⟨e0,by simpa using he0,hk0⟩,fun v e' h4 h5=>?_⟩
       . unfold Instr.findNow
         simp only [h1,Instr.sameNow,hs];rw [show i + (j + 1) = i + 1 + j from by omega]; exact ha
       . unfold X6e
         rw [if_neg hn];simp only [List.set_cons_succ,List.map_cons,h1,h2];rw [hb v e' h4 h5]
theorem Q5t {P:Program} {w:World} {r:Nat} {es:Array MapEntry} {clock:Nat} (hb:w.heap[r]? = some (.map es clock)):(getObj r).run P w = .ok (.map es clock) w:=by
 simp [getObj,Sem.run,hb]
theorem Q9a {P:Program} {w:World} {r:Nat} {es:Array MapEntry} {clock:Nat} (o:Obj) (hb:w.heap[r]? = some (.map es clock)):(setObj r o).run P w = .ok () { w with heap:=w.heap.setIfInBounds r o }:=by
 simp [setObj,Sem.run,hb]
theorem Q5g {P:Program} {w:World} {k:TypeId} (hk:P.underlying k = some .string) (e:Bool) (s:ByteArray) (n:Nat):(Instr.checkKey e (n + 1) k (.string s)).run P w = .ok () w:=by
 unfold Instr.checkKey;simp only [Sem.run_bind,run_underlying hk,Result.andThen_ok,Sem.run_pure]
theorem Q2p {P:Program} {w:World} {b:Nat} {l:List (ByteArray × Value)} (h:Q1f w b l) {t k e:TypeId} (ht:P.underlying t = some (.map k e)) (hk:P.underlying k = some .string) {z:Value} (hz:(zeroValue e).run P w = .ok z w) (s:ByteArray) (ok:Bool) :
    (Instr.lookup t (.map (some b)) (.string s) ok).run P w = .ok (if ok then .tuple #[(Q2c s l).getD z,.bool (Q2c s l).isSome] else (Q2c s l).getD z) w:=by
 obtain ⟨a,clock,hb,he⟩:=h;obtain ⟨r,hr,hf⟩:=Q7b s a.toList l 0 he;unfold Instr.lookup;simp only [Sem.run_bind,run_underlying ht,Result.andThen_ok,Q5t hb,Sem.run_pure,Q5g hk _ s 9999,Instr.findKey,run_underlying hk,hr];rw [<- hf];cases r with
 | none=>simp only [Sem.run_bind,hz,Result.andThen_ok,Sem.run_pure]; cases ok <;> rfl
 | some p=>cases ok <;> rfl
theorem Q3a {P:Program} {w:World} {b:Nat} {l:List (ByteArray × Value)} (h:Q1f w b l) {t k e:TypeId} (ht:P.underlying t = some (.map k e)) (hk:P.underlying k = some .string) (s:ByteArray) (v:Value) :
    ∃ w',(Instr.mapUpdate t (.map (some b)) (.string s) v).run P w = .ok () w' /\ Q1f w' b (X6e s v l) /\ (∀ n,n <= b -> Below n w w') /\ w.grownBy w' (some b):=by
 obtain ⟨a,clock,hb,he⟩:=h;have hlt:=(Array.getElem?_eq_some_iff.1 hb).1;have hbel:∀ o n,n <= b -> Below n w { w with heap:=w.heap.setIfInBounds b o }:=fun o n hn =>
  ⟨rfl,rfl,rfl,by simp,fun k hk'=>by show (w.heap.setIfInBounds b o)[k]? = _; rw [Array.getElem?_setIfInBounds_ne (by omega)]⟩
 have hgr:∀ o,w.grownBy { w with heap:=w.heap.setIfInBounds b o } (some b):=fun o =>
  ⟨rfl,rfl,rfl,by simp,fun k _ hk'=>by show (w.heap.setIfInBounds b o)[k]? = _; rw [Array.getElem?_setIfInBounds_ne (fun e=>hk' (by rw [e]))]⟩
 rcases Q8q s a.toList l 0 he with ⟨hr,hp⟩ | ⟨j,x,hr,hj,⟨e0,he0,hk0⟩,hp⟩
 . refine ⟨{ w with heap:=w.heap.setIfInBounds b (.map (a.push ⟨.string s,v,clock⟩) (clock + 1)) },?_,⟨a.push ⟨.string s,v,clock⟩,clock + 1,?_,?_⟩,hbel _,hgr _⟩
   . unfold Instr.mapUpdate
     simp only [Sem.run_bind,run_underlying ht,Result.andThen_ok,Q5t hb,Sem.run_pure,Q5g hk _ s 9999,Instr.findKey,run_underlying hk,hr];exact Q9a _ hb
   . show (w.heap.setIfInBounds b _)[b]? = _; simp [hlt]
   . rw [hp v]; simp [he]
 . rw [Nat.zero_add] at hr
   have he0':a[j]? = some e0:=by simpa using he0
   refine ⟨{ w with heap:=w.heap.setIfInBounds b (.map (a.modify j fun e=>{ e with key:=.string s,val:=v }) clock) },?_,⟨a.modify j fun e=>{ e with key:=.string s,val:=v },clock,?_,?_⟩,hbel _,hgr _⟩
   . unfold Instr.mapUpdate
     simp only [Sem.run_bind,run_underlying ht,Result.andThen_ok,Q5t hb,Sem.run_pure,Q5g hk _ s 9999,Instr.findKey,run_underlying hk,hr,he0',Option.map_some,Option.getD_some,hk0];have hkt:(Instr.keyThatStays (.string s) (.string s)).run P w = .ok (.string s) w:=by
      unfold Instr.keyThatStays;rw [if_pos (by unfold Instr.sameBits; exact X9g s)]; rfl
     simp only [hkt,Result.andThen_ok];exact Q9a _ hb
   . show (w.heap.setIfInBounds b _)[b]? = _; simp [hlt]
   . have:=hp v { e0 with key:=.string s,val:=v } rfl rfl
     rw [<- this]
     congr 1
     apply List.ext_getElem?
     intro i;rw [Array.getElem?_toList,Array.getElem?_modify,List.getElem?_set]
     by_cases hij:j = i
     . subst hij
       have hja:j < a.size:=by simpa using hj
       simp only [he0',Option.map_some,if_true,Array.length_toList,hja]
     . simp [hij]
end Go.Tw
namespace Go.Proofs
open Go.RowKit Go.Tw Go.Flow
def kv (f:Nat):Value:=.agg #[.func (.func f) #[] #[]]
def Q2h:List (ByteArray × Value):=[(sAnd,kv 122),(sOr,kv 123),(sVote,kv 124)]
theorem X0x:Tryd.prog.underlying 167 = some (.map 9 174):=by kernel_rfl
theorem Y0t:Tryd.prog.underlying 9 = some .string:=by kernel_rfl
theorem Y1x (w:World):(zeroValue 174).run Tryd.prog w = .ok (.agg #[.nilFunc]) w:=by kernel_rfl
theorem X0p (w:World) :
    Calls Tryd.prog 95 #[] w fun e w'=>∃ b,e = .returned (.map (some b)) /\ Q1f w' b Q2h /\ Ext w w':=by
 have hmm:=@run_makeMap Tryd.prog;obtain ⟨W1,e1,m1,b1,_⟩:=Q3a (P:=Tryd.prog) (Q1f.made w) X0x Y0t sAnd (kv 122);obtain ⟨W2,e2,m2,b2,_⟩:=Q3a (P:=Tryd.prog) m1 X0x Y0t sOr (kv 123);obtain ⟨W3,e3,m3,b3,_⟩:=Q3a (P:=Tryd.prog) m2 X0x Y0t sVote (kv 124);have hx:Ext w W3:=Below.trans (Below.trans (Below.trans (Ext.box w (.map #[] 0)) (b1 w.heap.size (Nat.le_refl _))) (b2 w.heap.size (Nat.le_refl _))) (b3 w.heap.size (Nat.le_refl _));have HM:Hid (Q1f W3 w.heap.size Q2h):=m3;clear m1 m2 m3 b1 b2 b3;unfold kv sAnd at e1;unfold kv sOr at e2;unfold kv sVote at e3;go_enter Tryd.func95,Tryd.ntmps95;go_wp2;go_ret;exact ⟨_,rfl,HM.out,hx⟩
theorem X8a (w:World) (k v:Value) (n:Int) (l:List Int) (hv:IsInts w v l) :
    Calls Tryd.prog 122 #[.agg #[k,.int .i64 n,v]] w fun e w'=>e = .returned (.int .i64 l.length) /\ Ext w w':=by
 obtain ⟨A,cap,rfl,hl,hcap,hc⟩:=hv.opened;clear hv hc;go_enter Tryd.func122,Tryd.ntmps122;go_wp2;go_ret;exact ⟨rfl,Ext.box _ _⟩
theorem X7t (w:World) (k v:Value) (n:Int) :
    Calls Tryd.prog 123 #[.agg #[k,.int .i64 n,v]] w fun e w'=>e = .returned (.int .i64 1) /\ Ext w w':=by
 go_enter Tryd.func123,Tryd.ntmps123;go_wp2;go_ret;exact ⟨rfl,Ext.box _ _⟩
theorem X6t (w:World) (k v:Value) (n:Int) :
    Calls Tryd.prog 124 #[.agg #[k,.int .i64 n,v]] w fun e w'=>e = .returned (.int .i64 n) /\ Ext w w':=by
 go_enter Tryd.func124,Tryd.ntmps124;go_wp2;go_ret;exact ⟨rfl,Ext.box _ _⟩
end Go.Proofs
namespace Go.Tw
open Go.RowKit Go.Flow
def idV (x:Value):Value:=x
def Reads (w:World) (vs:List Value) (ll:List (List Int)):Prop:=vs.length = ll.length /\ ∀ i,i < ll.length -> IsInts w (vs.getD i undef) (ll.getD i [])
theorem Reads.ext {w w':World} {vs:List Value} {ll:List (List Int)} (h:Reads w vs ll) (hx:Ext w w'):Reads w' vs ll:=⟨h.1,fun i hi=>(h.2 i hi).ext hx⟩
theorem IsInts.below {w w':World} {B:Nat} {v:Value} {l:List Int} (h:IsInts w v l) (hb:Below B w w') (hlow:∀ b o c,v = .slice (some ⟨b,o,none⟩) l.length c -> l ≠ [] -> b < B):IsInts w' v l:=by
 obtain ⟨c,⟨A,cap,hv,hn,hcap,hc⟩,h2⟩:=h;refine ⟨c,⟨A,cap,hv,hn,hcap,fun j hj=>?_⟩,h2⟩;obtain ⟨b,off,hA,h⟩:=hc j hj;refine ⟨b,off,hA,?_⟩;have:b < B:=hlow b off cap (by rw [hv,hA]) (fun e=>by rw [e] at hj; simp at hj)
 exact (hb.cell (p:=⟨b,off + j,none⟩) this).trans h
theorem Reads.snoc {w:World} {vs:List Value} {ll:List (List Int)} {v:Value} {l:List Int} (h:Reads w vs ll) (hv:IsInts w v l):Reads w (vs ++ [v]) (ll ++ [l]):=by
 refine ⟨by simp [h.1],fun i hi=>?_⟩
 rw [List.length_append,List.length_singleton] at hi
 by_cases hlt:i < ll.length
 . have e1:(vs ++ [v]).getD i undef = vs.getD i undef:=by simp [List.getElem?_append_left (show i < vs.length by rw [h.1]; exact hlt)]
   have e2:(ll ++ [l]).getD i [] = ll.getD i []:=by simp [List.getElem?_append_left hlt]
   rw [e1,e2]; exact h.2 i hlt
 . have e:i = ll.length:=by omega
   have e1:(vs ++ [v]).getD i undef = v:=by rw [e,<- h.1]; simp
   have e2:(ll ++ [l]).getD i [] = l:=by rw [e]; simp
   rw [e1,e2]; exact hv
theorem Q0f.Y2n {w:World} {base:Nat} {e:TypeId} {v:Value} {vs:List Value} {ll:List (List Int)} (h:Q0f w base e idV v vs) (hr:Reads w vs ll) (hl:ll.length <= 17592186043904):IsIntss w v ll:=by
 refine ⟨fun k=>vs.getD k undef,?_,fun j hj=>?_⟩
 . rw [<- hr.1]
   exact h.row (by rw [hr.1]; exact hl) _ (fun k hk=>by simp [hk,idV])
 . have:=hr.2 j hj
   rw [getD_of _ hj] at this
   simpa using this
theorem IsIntss.opened {w:World} {v:Value} {ll:List (List Int)} (h:IsIntss w v ll) :
    ∃ A cap,v = .slice A ll.length cap /\ ll.length <= 17592186043904 /\ ll.length <= cap /\ ∀ k,k < ll.length -> ∃ b off m,A = some ⟨b,off,none⟩ /\ b < w.heap.size /\ w.cell? ⟨b,off + k,none⟩ = some m /\ IsInts w m (ll.getD k []):=by
 obtain ⟨c,⟨A,cap,hv,hn,hcap,hc⟩,h2⟩:=h;refine ⟨A,cap,hv,hn,hcap,fun k hk=>?_⟩;obtain ⟨b,off,hA,h⟩:=hc k (by omega)
 refine ⟨b,off,c k,hA,World.block_lt_of_cell? w _ h,h,?_⟩;have:=h2 k hk;simp only [Nat.mul_one,Nat.add_zero] at this;rw [getD_of _ hk]; exact this
theorem Q0f.cells {α:Type} {w:World} {base:Nat} {e:TypeId} {enc:α -> Value} {v:Value} {xs:List α} (h:Q0f w base e enc v xs) :
    ∃ A c,v = .slice A xs.length c /\ xs.length <= c /\ (∀ j (hj:j < xs.length),∃ g,A = some ⟨g,0,none⟩ /\ base <= g /\ g < w.heap.size /\ w.cell? ⟨g,0 + j,none⟩ = some (enc xs[j])):=by
 obtain ⟨_,h2⟩:=h
 rcases h2 with ⟨rfl,h0⟩ | ⟨g,cap,cur,rfl,hb,hg,hcap,_,_,htake⟩
 . exact ⟨none,0,by rw [h0],by omega,fun j hj=>by omega⟩
 . refine ⟨some ⟨g,0,none⟩,cap,rfl,hcap,fun j hj=>⟨g,rfl,hb,(Array.getElem?_eq_some_iff.1 hg).1,?_⟩⟩
   rw [Nat.zero_add];have h1:=congrArg (fun l=>l[j]?) htake;simp only [Nat.mul_one,List.getElem?_take,hj,if_true,List.getElem?_map,List.getElem?_eq_getElem hj,Option.map_some] at h1;simp only [World.cell?,hg]
   simpa using h1
theorem Q0f.cells2 {α:Type} {w:World} {base:Nat} {e:TypeId} {enc:α -> Value} {v:Value} {xs:List α} (h:Q0f w base e enc v xs) :
    (v = .slice none 0 0 /\ xs = []) ∨ ∃ g c,v = .slice (some ⟨g,0,none⟩) xs.length c /\ xs.length <= c /\ base <= g /\ g < w.heap.size /\ ∀ j (hj:j < xs.length),w.cell? ⟨g,0 + j,none⟩ = some (enc xs[j]):=by
 obtain ⟨_,h2⟩:=h
 rcases h2 with ⟨rfl,h0⟩ | ⟨g,cap,cur,rfl,hb,hg,hcap,_,_,htake⟩
 . exact .inl ⟨rfl,List.length_eq_zero_iff.1 h0⟩
 . refine .inr ⟨g,cap,rfl,hcap,hb,(Array.getElem?_eq_some_iff.1 hg).1,fun j hj=>?_⟩
   rw [Nat.zero_add];have h1:=congrArg (fun l=>l[j]?) htake;simp only [Nat.mul_one,List.getElem?_take,hj,if_true,List.getElem?_map,List.getElem?_eq_getElem hj,Option.map_some] at h1;simp only [World.cell?,hg]
   simpa using h1
theorem Q0f.weaken {α:Type} {w:World} {base base':Nat} {e:TypeId} {enc:α -> Value} {v:Value} {xs:List α} (h:Q0f w base e enc v xs) (hb:base' <= base):Q0f w base' e enc v xs:=by
 obtain ⟨h1,h2⟩:=h;refine ⟨h1,?_⟩
 rcases h2 with h2 | ⟨g,cap,cur,hv,hbg,r⟩
 . exact .inl h2
 . exact .inr ⟨g,cap,cur,hv,Nat.le_trans hb hbg,r⟩
theorem IsInts.one {w:World} {v:Value} {l:List Int} (h:IsInts w v l):(idV v).oneCell' = true:=by
 obtain ⟨A,cap,rfl,_⟩:=h.opened;rfl
theorem IsInts.cells {w:World} {v:Value} {l:List Int} (h:IsInts w v l):v.cells = #[v]:=by
 obtain ⟨A,cap,rfl,_⟩:=h.opened;rfl
theorem Reads.one {w:World} {vs:List Value} {ll:List (List Int)} (h:Reads w vs ll):∀ y ∈ vs,(idV y).oneCell' = true:=by
 intro y hy;obtain ⟨i,hi,rfl⟩:=List.getElem_of_mem hy;have:=h.2 i (by rw [<- h.1]; exact hi)
 rw [getD_of _ hi] at this;exact this.one
def Q4w (w:World) (v:Value) (B:Nat) (e:TypeId):Prop:=∃ g,v = .slice (some ⟨g,0,none⟩) 0 0 /\ B <= g /\ w.heap[g]? = some (.cells #[] e (0,0))
theorem Q4w.ext {w w':World} {v:Value} {B:Nat} {e:TypeId} (h:Q4w w v B e) (hx:Ext w w'):Q4w w' v B e :=
 let ⟨g,h1,h2,h3⟩:=h; ⟨g,h1,h2,(Below.block hx g (Array.getElem?_eq_some_iff.1 h3).1).trans h3⟩
theorem Q4w.made (w:World) (B:Nat) (e:TypeId) (h:B <= w.heap.size):Q4w (w.alloc (.cells #[] e)) (.slice (some ⟨w.heap.size,0,none⟩) 0 0) B e:=⟨_,rfl,h,heap_alloc_new w _⟩
def Q2m (w:World) (v:Value) (x:Value):Prop:=∃ g,v = .slice (some ⟨g,0,none⟩) 1 1 /\ w.cell? ⟨g,0,none⟩ = some x
theorem Q2m.ext {w w':World} {v x:Value} (h:Q2m w v x) (hx:Ext w w'):Q2m w' v x:=let ⟨g,h1,h2⟩:=h; ⟨g,h1,hx.cell h2⟩
theorem Q2m.made (w:World) (x:Value) (e:TypeId):Q2m (w.alloc (.cells #[x] e)) (.slice (some ⟨w.heap.size,0,none⟩) 1 1) x:=⟨_,rfl,Q0d _ _ _ _⟩
theorem Q2m.src {w:World} {v x:Value} (h:Q2m w v x):Src w idV v [x]:=by
 obtain ⟨g,rfl,hc⟩:=h;refine ⟨_,_,rfl,fun j hj=>⟨g,0,rfl,?_⟩⟩;obtain rfl:j = 0:=by rw [List.length_singleton] at hj; omega
 exact hc
theorem IsInts.made (w:World) (xs:List Int) (e:TypeId) (h:xs.length <= 17592186043904):IsInts (w.alloc (.cells (xs.map (Value.int .i64)).toArray e)) (.slice (some ⟨w.heap.size,0,none⟩) xs.length xs.length) xs:=by
 refine ⟨fun k=>((xs.map (Value.int .i64))[k]?).getD undef,⟨_,_,rfl,h,Nat.le_refl _,fun j hj=>⟨_,0,rfl,?_⟩⟩,fun j hj=>?_⟩
 . have hj':j < xs.length:=by omega
   rw [Nat.zero_add,Q0d];simp [hj']
 . simp [hj]
end Go.Tw
namespace Go.Proofs
open Go.RowKit Go.Tw Go.Flow
theorem Tryd.Y2c:(Tryd.prog.info? 32).map (fun i=>(i.zero,i.size,i.bytes)) = some (some (.slice none 0 0),1,24):=by kernel_rfl
def Q5z (t:Tree) (p:Bool) (n:Nat):List (List Int):=(List.range n).foldl (fun out s=>if t.minimalB (bitsOf s) p then insertBack (bitsOf s) out else out) []
theorem Q6u (t:Tree) (p:Bool) (n:Nat):Q5z t p (n + 1) = if t.minimalB (bitsOf n) p then insertBack (bitsOf n) (Q5z t p n) else Q5z t p n:=by
 unfold Q5z; rw [List.range_succ,List.foldl_append]; rfl
theorem Q8z (l:List Int) (out:List (List Int)):∀ n,posBack l out n <= n
 | 0=>Nat.le_refl _
 | n + 1=>by
   unfold posBack
   split
   . exact Nat.le_trans (Q8z l out n) (by omega)
   . exact Nat.le_refl _
end Go.Proofs
namespace Go.Proofs
open Go.RowKit Go.Tw Go.Flow
theorem X9c {s:Nat} (hs:s < 65536):evL (bitsOf s) = evN s:=by
 funext i
 unfold evL evN has bitsOf;rw [Bool.eq_iff_iff];simp only [List.contains_iff_mem,List.mem_map,List.mem_filter,List.mem_range]
 constructor
 . rintro ⟨a,⟨_,h⟩,he⟩
   have:a = i:=by have:(a:Int) = (i:Int):=he; omega
   rw [<- this]; exact h
 . intro h
   refine ⟨i,⟨?_,h⟩,rfl⟩
   rcases Nat.lt_or_ge i 16 with h' | h'
   . exact h'
   . rw [Nat.testBit_lt_two_pow (Nat.lt_of_lt_of_le hs (Nat.pow_le_pow_right (n:=2) (by omega) h'))] at h
     cases h
structure Small (c:List Int):Prop where
 len:c.length <= 12
 range:∀ x ∈ c,0 <= x /\ x <= 16
theorem Small.ix {c:List Int} (h:Small c) {j:Nat} (hj:j < c.length):0 <= ix c j /\ ix c j <= 16:=by
 rw [ix_eq hj]; exact h.range _ (List.getElem_mem hj)
theorem Small.factor {c:List Int} (h:Small c) (s:Nat) {j:Nat} (hj:j < c.length):0 <= factor c s j /\ factor c s j <= 16:=by
 have:=h.ix hj;unfold Tw.factor
 split <;> omega
theorem X1n {c:List Int} (h:Small c) (s:Nat):∀ j,j <= c.length -> 0 <= partTo c s j /\ partTo c s j <= 16 ^ j
 | 0,_=>by simp [partTo]
 | j + 1,hj=>by
   obtain ⟨h1,h2⟩:=X1n h s j (by omega)
   obtain ⟨h3,h4⟩:=h.factor s (show j < c.length by omega)
   unfold partTo;refine ⟨Int.mul_nonneg h1 h3,?_⟩;rw [Int.pow_succ];exact Int.mul_le_mul h2 h4 h3 (Int.le_trans h1 h2)
theorem X8u {j:Nat} (h:j <= 12):(16:Int) ^ j <= 281474976710656:=by
 have:(16:Nat) ^ j <= 16 ^ 12:=Nat.pow_le_pow_right (by omega) h
 have h2:((16 ^ j:Nat):Int) <= ((16 ^ 12:Nat):Int):=by exact_mod_cast this
 simpa using h2
theorem Q4x {c:List Int} (h:Small c) (s:Nat) {j:Nat} (hj:j <= c.length):0 <= partTo c s j /\ partTo c s j <= 281474976710656:=by
 have:=X1n h s j hj;have h2:=X8u (show j <= 12 from Nat.le_trans hj h.len)
 omega
end Go.Proofs
