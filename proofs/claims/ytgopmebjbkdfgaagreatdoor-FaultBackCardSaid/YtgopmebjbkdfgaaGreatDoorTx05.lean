/- Contracts: which nodes fail; cut sets and path sets as bits. Contracts: cut sets and path sets as bits. Maps with string keys that a call makes, as lists of pairs: look-ups and stores. Contracts: the kinds of gates, what one of them needs, a gate's mask and need, its error. A list of lists that a call makes and appends to. The contract of the reference's sets, in order. Contracts: the reference's Cuts, Paths, Single, CheckSet, CheckSets, contains, CheckCuts. The contract of the reference's weight. The contract of the reference's Lowest. Contracts: Q0b with others in their place, probabilities. Contracts: probabilities of the reference. -/
import Derived.Test.YtgopmebjbkdfgaaGreatDoorTx04
import Derived.Test.YtgopmebjbkdfgaaGreatDoorTx03
import Derived.Maps.OwnSet
import Derived.MapKept
import Derived.IntWalk
set_option maxRecDepth 1000000
set_option maxHeartbeats 64000000
set_option linter.unusedVariables false
set_option linter.unusedSimpArgs false
set_option linter.constructorNameAsVariable false
namespace Go.Proofs
open Go.RowKit Go.Tw Go.Flow
theorem Q9p {s:Nat} (hs:s < 2 ^ 62) (i:Nat):(bits .and .i64 ((s:Int) / 2 ^ i) 1 == 1) = s.testBit i:=by
 have h1:(s:Int) / 2 ^ i = ((s / 2 ^ i:Nat):Int):=by simp
 have h2:bits .and .i64 ((s / 2 ^ i:Nat):Int) 1 = ((s / 2 ^ i &&& 1:Nat):Int):=Z2p (a:=s / 2 ^ i) (b:=1) (Nat.lt_of_le_of_lt (Nat.div_le_self _ _) hs) (by decide)
 rw [h1,h2,Nat.and_one_is_mod,Z9x];have h3:s / 2 ^ i % 2 = 0 ∨ s / 2 ^ i % 2 = 1:=by omega
 rcases h3 with h | h <;> rw [h] <;> rfl
theorem X5a (w:World) (fv gv:Value) (t:Tree) (c:List Int) (s:Nat) (hv:Valid t) (hs:s < 2 ^ t.size) (hn:Y2t w fv gv t) :
    Calls Tryz.prog 88 #[noV t c fv gv,.int .i64 s] w fun e w'=>e = .returned (.int .i64 (Q4o (t.states (evN s)):Nat)) /\ Ext w w':=by
 obtain ⟨hf,hg⟩:=hn;obtain ⟨A,cap,rfl,hl1,hcap,hc⟩:=hf.opened;obtain ⟨A2,cap2,rfl,hl2,hcap2,hc2⟩:=hg.opened;rw [Q2g] at hl1 hcap hc;have hsz:=hv.size;have hng:=hv.ng';have hnb:=hv.nb;have HV:=Lib.hid hv;have HC:=Lib.hid hc;have HC2:=Lib.hid hc2;have hsb:t.basics.length <= 12:=by unfold Tree.size at hsz; omega
 have hs12:s < 2 ^ 62:=Nat.lt_of_lt_of_le hs (Nat.pow_le_pow_right (by omega) (by omega))
 have HS:=Lib.hid hs12;clear hf hg hc hc2 hv hs hs12;unfold noV;rw [Q2g];go_enter Tryz.func88,Tryz.ntmps88;go_wp2;obtain ⟨W,hW⟩:∃ W,w.alloc (.cells #[.int .i64 t.size,.slice A t.size cap,.int .i64 (ix c 0),.int .i64 (ix c 1),.int .i64 (ix c 2),.int .i64 (ix c 3),.int .i64 (ix c 4),.int .i64 (ix c 5),.int .i64 (ix c 6),.int .i64 (ix c 7),.int .i64 (ix c 8),.int .i64 (ix c 9),.int .i64 (ix c 10),.int .i64 (ix c 11),.int .i64 t.basics.length,.slice A2 t.gates.length cap2] 129) = W:=⟨_,rfl⟩;have hxW:Ext w W:=by rw [<- hW]; exact Ext.box _ _
 have n14:W.cell? ⟨w.heap.size,14,none⟩ = some (.int .i64 t.basics.length):=by rw [<- hW]; exact Q0w _ _ _ 14
 have n15:W.cell? ⟨w.heap.size,15,none⟩ = some (.slice A2 t.gates.length cap2):=by rw [<- hW]; exact Q0w _ _ _ 15
 rw [hW];clear hW
 go_loop [5,14] (fun o i=>∃ (k:Nat),k <= t.size /\ i = .int .i64 k /\ o = .int .i64 (t.Y2v s k:Nat)) (fun _ i=>t.size - (intOf i).toNat)
 case atStart=>exact ⟨0,Nat.zero_le _,rfl,rfl⟩
 case round =>
  obtain ⟨k,hk,rfl,rfl⟩:=hrel
  by_cases hlt:k < t.size
  . obtain ⟨b,off,rfl,hcell⟩:=HC.out k hlt
    rw [Z4a hlt] at hcell;replace hcell:=hxW.cell hcell;have hm:=HV.out.Y2r hlt;have ho:=HV.out.Y4c s k hk;have hp12:(2:Nat) ^ t.basics.length <= 2 ^ 12:=Nat.pow_le_pow_right (by omega) hsb
    have hor:=J0e (a:=t.Y2v s k) (b:=t.maskAt k) (by omega) (by omega)
    have HO:Hid (t.Y2v s (k + 1) = if s.testBit k then t.Y2v s k ||| t.maskAt k else t.Y2v s k):=by exact (rfl:t.Y2v s (k + 1) = _)
    have hb1:=Q9p HS.out k;obtain ⟨o,he⟩:∃ o,t.Y2v s k = o:=⟨_,rfl⟩;obtain ⟨m,hme⟩:∃ m,t.maskAt k = m:=⟨_,rfl⟩;rw [he,hme] at hor HO;rw [hme] at hcell;rw [he];clear he hme hm ho hp12;cases hb:s.testBit k with
    | true =>
      rw [hb] at HO hb1;clear hb;go_wp2;go_round
      case rel=>exact ⟨k + 1,by omega,by go_num,by rw [HO.out]; rfl⟩
      case measure=>simp [intOf]; omega
    | false =>
      rw [hb] at HO hb1;clear hb;go_wp2;go_round
      case rel=>exact ⟨k + 1,by omega,by go_num,by rw [HO.out]; rfl⟩
      case measure=>simp [intOf]; omega
  . have e0:t.Y2v s k = Q4o (t.Q6a (evN s) 0):=by rw [show k = t.size from by omega,HV.out.Z4z]; rfl
    rw [e0];clear e0;go_wp2
    go_loopw [5,31] (fun o i wr=>∃ (g:Nat),g <= t.gates.length /\ i = .int .i64 g /\ o = .int .i64 (Q4o (t.Q6a (evN s) g):Nat) /\ Ext W wr) (fun _ i _=>t.gates.length - (intOf i).toNat)
    case atStart=>exact ⟨0,Nat.zero_le _,rfl,rfl,Ext.refl _⟩
    case round =>
     obtain ⟨g,hg,rfl,rfl,hx⟩:=hrel;replace n14:=hx.cell n14;replace n15:=hx.cell n15
     by_cases hlg:g < t.gates.length
     . obtain ⟨b,off,rfl,hbl,g0,g1⟩:=HC2.out g hlg
       replace g0:=hx.cell (hxW.cell g0);replace g1:=hx.cell (hxW.cell g1);have hm:=HV.out.Z2n hlg;have ho:=HV.out.X8p (evN s) hg;have HST:=Lib.hid (HV.out.step (evN s) hlg);have hand:=Z2p (a:=Q4o (t.Q6a (evN s) g)) (b:=(t.gt g).1) (by omega) (by omega)
       have hor:=Z0p (a:=Q4o (t.Q6a (evN s) g)) (n:=t.basics.length + g) (by omega) (by omega)
       obtain ⟨o,he⟩:∃ o,Q4o (t.Q6a (evN s) g) = o:=⟨_,rfl⟩;obtain ⟨m,hme⟩:∃ m,(t.gt g).1 = m:=⟨_,rfl⟩;obtain ⟨q,hq⟩:∃ q,(t.gt g).2 = q:=⟨_,rfl⟩;rw [he,hme,hq] at HST;rw [he,hme] at hand;rw [he] at ho hor;rw [hme] at g0 hm;rw [hq] at g1;rw [he];clear he hme hq hbl;have hlt64:o &&& m < 2 ^ 64:=Nat.lt_of_le_of_lt Nat.and_le_right (by omega)
       obtain ⟨r,hr⟩:∃ r,o &&& m = r:=⟨_,rfl⟩;rw [hr] at HST hand hlt64;clear hr;obtain ⟨p,hp⟩:∃ p,X0e r 64 = p:=⟨_,rfl⟩;rw [hp] at HST;have HON:Hid (∀ w',Calls Tryz.prog 136 #[.int .u64 r] w' fun e w''=>e = .returned (.int .i64 (p:Nat)) /\ w' = w''):=by
        exact (by intro w'; rw [<- hp]; exact Z2y w' r hlt64:∀ w',Calls Tryz.prog 136 #[.int .u64 r] w' fun e w''=>e = .returned (.int .i64 (p:Nat)) /\ w' = w'')
       have hwr:IntKind.u64.wrap (r:Int) = (r:Int):=X5y (by omega)
       clear hp hlt64 hm ho
       go_light
       go_wp2;obtain ⟨W2,hW2⟩:∃ W2,wr.alloc (.cells #[.int .i64 m,.int .i64 q] 174) = W2:=⟨_,rfl⟩;have hx2:Ext wr W2:=by rw [<- hW2]; exact Ext.box _ _
       have k0:W2.cell? ⟨wr.heap.size,0,none⟩ = some (.int .i64 m):=by rw [<- hW2]; exact Q0w _ _ _ 0
       have k1:W2.cell? ⟨wr.heap.size,1,none⟩ = some (.int .i64 q):=by rw [<- hW2]; exact Q0w _ _ _ 1
       rw [hW2];replace n14:=hx2.cell n14;have hxr:=hx.trans hx2;clear hW2;refine Flow.Q7s [.p,.p,.w,.p,.w,.w,.p,.w,.p] [0,1,2,3,4,5,6,7,8] [[],[],[1],[0,2],[3],[4],[],[6],[5,7]]
        [.c 0 (.int .i64 (o:Nat)),.c 1 (.pointer (some ⟨wr.heap.size,0,none⟩)),.c 2 (.int .i64 (m:Nat)),.c 3 (.int .i64 (r:Nat)),.c 4 (.int .u64 (r:Nat)),.c 5 (.int .i64 (p:Nat)),.c 6 (.pointer (some ⟨wr.heap.size,1,none⟩)),.c 7 (.int .i64 q),.c 8 (.bool (decide (q <= (p:Int))))]
        (by kernel_rfl) rfl (by kernel_rfl) ⟨?g0,?g1,?g2,?g3,?g4,?g5,?g6,?g7,?g8,trivial⟩ ?post
       case g0 | g1 | g6=>
        intro v w1 hx;refine ⟨_,fun w=>?_,rfl⟩;go_simp
       case g2 | g4 | g7=>
        intro v w1 hx;(repeat intro (zq:v _ = _));have k0:=hx.cell k0;have k1:=hx.cell k1;intro K hK;go_simp;exact hK _ _ (Ext.refl _) rfl
       case g3 | g8=>
        intro v w1 hx;(repeat intro (zq:v _ = _));refine ⟨_,fun w=>?_,rfl⟩;go_simp
       case g5=>
        intro v w1 hx;(repeat intro (zq:v _ = _));have k0:=hx.cell k0;have k1:=hx.cell k1;intro K hK;go_simp;refine Q0d (HON.out _) ?_;rintro e w2 ⟨rfl,rfl⟩;exact ⟨_,rfl,hK _ _ (Ext.refl _) rfl⟩
       case post =>
        intro v w1 hx;(iterate 9 intro (zq:v _ = _));simp only [Flow.All,Flow.acts,Act.put];go_simp;replace n14:=((Ext.refl W2).drew.trans hx).cell n14
        by_cases hd:q <= (p:Int)
        . rw [if_pos hd] at HST
          rw [decide_eq_true hd];clear hd;go_wp2;go_roundw
          case rel=>exact ⟨g + 1,by omega,by go_num,by rw [HST.out],hxr.trans ((Ext.refl W2).drew.trans hx)⟩
          case measure=>simp [intOf]; omega
        . rw [if_neg hd] at HST
          rw [decide_eq_false hd];clear hd;go_wp2;go_roundw
          case rel=>exact ⟨g + 1,by omega,by go_num,by rw [HST.out],hxr.trans ((Ext.refl W2).drew.trans hx)⟩
          case measure=>simp [intOf]; omega
     . go_wp2
       go_ret;exact ⟨Q0y (by rw [show g = t.gates.length from by omega]; rfl),hxW.trans hx⟩
end Go.Proofs
namespace Go.Proofs
open Go.RowKit Go.Tw Go.Flow
structure X3x (w:World) (g:Nat) (t:Tree) (c:List Int) (fv gv:Value):Prop where
 n0:w.cell? ⟨g,0,none⟩ = some (.int .i64 t.size)
 n1:w.cell? ⟨g,1,none⟩ = some (fv)
 n2:w.cell? ⟨g,2,none⟩ = some (.int .i64 (ix c 0))
 n3:w.cell? ⟨g,3,none⟩ = some (.int .i64 (ix c 1))
 n4:w.cell? ⟨g,4,none⟩ = some (.int .i64 (ix c 2))
 n5:w.cell? ⟨g,5,none⟩ = some (.int .i64 (ix c 3))
 n6:w.cell? ⟨g,6,none⟩ = some (.int .i64 (ix c 4))
 n7:w.cell? ⟨g,7,none⟩ = some (.int .i64 (ix c 5))
 n8:w.cell? ⟨g,8,none⟩ = some (.int .i64 (ix c 6))
 n9:w.cell? ⟨g,9,none⟩ = some (.int .i64 (ix c 7))
 n10:w.cell? ⟨g,10,none⟩ = some (.int .i64 (ix c 8))
 n11:w.cell? ⟨g,11,none⟩ = some (.int .i64 (ix c 9))
 n12:w.cell? ⟨g,12,none⟩ = some (.int .i64 (ix c 10))
 n13:w.cell? ⟨g,13,none⟩ = some (.int .i64 (ix c 11))
 n14:w.cell? ⟨g,14,none⟩ = some (.int .i64 t.basics.length)
 n15:w.cell? ⟨g,15,none⟩ = some (gv)
theorem X3x.ext {w w':World} {g:Nat} {t:Tree} {c:List Int} {fv gv:Value} (h:X3x w g t c fv gv) (hx:Ext w w'):X3x w' g t c fv gv :=
 ⟨hx.cell h.n0,hx.cell h.n1,hx.cell h.n2,hx.cell h.n3,hx.cell h.n4,hx.cell h.n5,hx.cell h.n6,hx.cell h.n7,hx.cell h.n8,hx.cell h.n9,hx.cell h.n10,hx.cell h.n11,hx.cell h.n12,hx.cell h.n13,hx.cell h.n14,hx.cell h.n15⟩
theorem X3x.new (w:World) (T:TypeId) (t:Tree) (c:List Int) (fv gv:Value):X3x (w.alloc (.cells #[.int .i64 t.size,fv,.int .i64 (ix c 0),.int .i64 (ix c 1),.int .i64 (ix c 2),.int .i64 (ix c 3),.int .i64 (ix c 4),.int .i64 (ix c 5),.int .i64 (ix c 6),.int .i64 (ix c 7),.int .i64 (ix c 8),.int .i64 (ix c 9),.int .i64 (ix c 10),.int .i64 (ix c 11),.int .i64 t.basics.length,gv] T)) w.heap.size t c fv gv :=
 ⟨Q0w _ _ _ 0,Q0w _ _ _ 1,Q0w _ _ _ 2,Q0w _ _ _ 3,Q0w _ _ _ 4,Q0w _ _ _ 5,Q0w _ _ _ 6,Q0w _ _ _ 7,Q0w _ _ _ 8,Q0w _ _ _ 9,Q0w _ _ _ 10,Q0w _ _ _ 11,Q0w _ _ _ 12,Q0w _ _ _ 13,Q0w _ _ _ 14,Q0w _ _ _ 15⟩
theorem Q9d {P:Program} {w:World} {g:Nat} (cs:Nat -> Value):∀ (n i:Nat) (acc:Array Value),(∀ k,k < n -> w.cell? ⟨g,i + k,none⟩ = some (cs (i + k))) ->
    (loadCellsFrom ⟨g,0,none⟩ i n acc).run P w = .ok (acc ++ ((List.range' i n).map cs).toArray) w
 | 0,i,acc,_=>by simp [loadCellsFrom]
 | n + 1,i,acc,h=>by
   have h0:=h 0 (by omega)
   rw [Nat.add_zero] at h0;have ea:(⟨g,0,none⟩:Addr).add i = ⟨g,i,none⟩:=by rw [addr_add,Nat.zero_add]
   rw [loadCellsFrom,ea];simp only [Sem.run_bind,load,Sem.run,h0,Result.andThen_ok];rw [Q9d cs n (i + 1) _ (fun k hk=>by have:=h (k + 1) (by omega); rwa [show i + (k + 1) = i + 1 + k from by omega] at this)]
   simp [List.range'_succ]
theorem X6k {w:World} {g:Nat} {t:Tree} {c:List Int} {fv gv:Value} (R:X3x w g t c fv gv):(loadVar 129 ⟨g,0,none⟩).run Tryz.prog w = .ok (noV t c fv gv) w:=by
 have h1:(isAgg 129).run Tryz.prog w = .ok true w:=by kernel_rfl
 have h2:(sizeOf 129).run Tryz.prog w = .ok 16 w:=by kernel_rfl
 have h3:(loadCells ⟨g,0,none⟩ 16).run Tryz.prog w = .ok (noV t c fv gv).cells w:=by
  obtain ⟨n0,n1,n2,n3,n4,n5,n6,n7,n8,n9,n10,n11,n12,n13,n14,n15⟩:=R;have:=Q9d (P:=Tryz.prog) (w:=w) (g:=g) (fun k=>((noV t c fv gv).cells[k]?).getD undef) 16 0 #[] (fun k hk=>by
   rw [Nat.zero_add];have:k = 0 ∨ k = 1 ∨ k = 2 ∨ k = 3 ∨ k = 4 ∨ k = 5 ∨ k = 6 ∨ k = 7 ∨ k = 8 ∨ k = 9 ∨ k = 10 ∨ k = 11 ∨ k = 12 ∨ k = 13 ∨ k = 14 ∨ k = 15:=by omega
   rcases this with rfl | rfl | rfl | rfl | rfl | rfl | rfl | rfl | rfl | rfl | rfl | rfl | rfl | rfl | rfl | rfl <;> assumption)
  exact this
 unfold loadVar;simp only [Sem.run_bind,h1,h2,h3,Result.andThen_ok,if_true,Sem.run_pure];rfl
theorem X3w {w:World} {g:Nat} {t:Tree} {c:List Int} {fv gv:Value} (R:X3x w g t c fv gv):(Instr.loadAt 129 (.pointer (some ⟨g,0,none⟩))).run Tryz.prog w = .ok (noV t c fv gv) w:=by
 unfold Instr.loadAt;simp only [Sem.run_bind,Instr.sureAddr,Sem.run_pure,Result.andThen_ok,X6k R]
theorem Q8t {K:Value -> World -> Prop} {o:Oper} {a:Act} {w:World} (p:Operand) (ho:o.op = .load 129 p) {g:Nat} (hp:a.eval p = .pointer (some ⟨g,0,none⟩)) {t:Tree} {c:List Int} {fv gv:Value} (R:X3x w g t c fv gv)
    (h:K (noV t c fv gv) w):gives Tryz.prog K ((execOp a.eval o).run Tryz.prog w):=by
 unfold execOp;simp only [ho,hp,Sem.run_bind,X3w R,Result.andThen_ok];exact h
theorem Y9y (t:Tree) (ev:Nat -> Bool):(Q4o (t.states ev)).testBit (t.nodes - 1) = t.fails ev:=Q4q _ _
theorem Q7t (w:World) (fv gv:Value) (t:Tree) (c:List Int) (s:Nat) (hv:Valid t) (hs:s < 2 ^ t.size) (hn:Y2t w fv gv t) :
    Calls Tryz.prog 73 #[noV t c fv gv,.int .i64 s] w fun e w'=>e = .returned (.bool (t.fails (evN s))) /\ Ext w w':=by
 have HN:=Lib.hid hn;obtain ⟨A2,cap2,hgv,hl2,hcap2,_⟩:=hn.gates.opened;have hsz:=hv.size;have hng:=hv.ng';have hnb:=hv.nb;have hng1:=hv.ng;have HV:=Lib.hid hv;have HS:=Lib.hid hs;have hsb:t.basics.length <= 12:=by unfold Tree.size at hsz; omega
 obtain ⟨M,hM⟩:∃ M,t.nodes = M + 1:=⟨t.nodes - 1,by unfold Tree.nodes; omega⟩
 have hM1:(t.basics.length:Int) + (t.gates.length:Int) - 1 = (M:Int):=by unfold Tree.nodes at hM; omega
 have hwM:IntKind.i64.wrap (M:Int) = (M:Int):=Q3v _ (by omega) (by unfold Tree.nodes at hM; omega)
 have hwS:IntKind.i64.wrap ((t.basics.length:Int) + (t.gates.length:Int)) = (t.basics.length:Int) + (t.gates.length:Int):=Q3v _ (by omega) (by omega)
 have hM2:M < 62:=by unfold Tree.nodes at hM; omega
 have hFB:Hid ((Q4o (t.states (evN s))).testBit M = t.fails (evN s)):=by
  exact (by have:=Y9y t (evN s); rwa [hM,Nat.add_sub_cancel] at this:(Q4o (t.states (evN s))).testBit M = t.fails (evN s))
 have hX:Q4o (t.states (evN s)) < 2 ^ 62:=Nat.lt_of_lt_of_le (hv.X8p (evN s) (Nat.le_refl _)) (by decide)
 have HB:=X3x.new w 129 t c fv gv;obtain ⟨X,hXe⟩:∃ X,Q4o (t.states (evN s)) = X:=⟨_,rfl⟩;have HCF:Hid (∀ w',Y2t w' fv gv t -> Calls Tryz.prog 88 #[noV t c fv gv,.int .i64 s] w' fun e w''=>e = .returned (.int .i64 (X:Nat)) /\ Ext w' w''):=by
  exact (by intro w' h; rw [<- hXe]; exact X5a _ _ _ t c s hv hs h:∀ w',Y2t w' fv gv t -> Calls Tryz.prog 88 #[noV t c fv gv,.int .i64 s] w' fun e w''=>e = .returned (.int .i64 (X:Nat)) /\ Ext w' w'')
 rw [hXe] at hX hFB;have hb1:=Q9p hX M;rw [hFB.out] at hb1;subst hgv;clear hn hv hs hM hXe hX;unfold noV;go_enter Tryz.func73,Tryz.ntmps73;go_wp2;have hxW:=Ext.box w (.cells #[.int .i64 t.size,fv,.int .i64 (ix c 0),.int .i64 (ix c 1),.int .i64 (ix c 2),.int .i64 (ix c 3),.int .i64 (ix c 4),.int .i64 (ix c 5),.int .i64 (ix c 6),.int .i64 (ix c 7),.int .i64 (ix c 8),.int .i64 (ix c 9),.int .i64 (ix c 10),.int .i64 (ix c 11),.int .i64 t.basics.length,.slice A2 t.gates.length cap2] 129);obtain ⟨W,hW⟩:∃ W,w.alloc (.cells #[.int .i64 t.size,fv,.int .i64 (ix c 0),.int .i64 (ix c 1),.int .i64 (ix c 2),.int .i64 (ix c 3),.int .i64 (ix c 4),.int .i64 (ix c 5),.int .i64 (ix c 6),.int .i64 (ix c 7),.int .i64 (ix c 8),.int .i64 (ix c 9),.int .i64 (ix c 10),.int .i64 (ix c 11),.int .i64 t.basics.length,.slice A2 t.gates.length cap2] 129) = W:=⟨_,rfl⟩;rw [hW] at HB hxW ⊢;clear hW;have hxd:=(Ext.refl W).drew;refine Flow.Q7s [.w,.p,.w,.p,.w,.p,.w,.p,.p,.p,.p,.p,.p,.p] [0,1,2,3,4,5,6,7,8,9,10,11,12,13] [[],[],[0,1],[],[3],[],[5],[6],[4,7],[8],[2,9],[10],[11],[0,1,2,3,4,5,6,7,8,9,10,11,12]]
  [.c 0 (noV t c fv (.slice A2 t.gates.length cap2)),.c 1 (.int .i64 s),.c 2 (.int .i64 (X:Nat)),.c 3 (.pointer (some ⟨w.heap.size,14,none⟩)),.c 4 (.int .i64 t.basics.length),.c 5 (.pointer (some ⟨w.heap.size,15,none⟩)),.c 6 (.slice A2 t.gates.length cap2),.c 7 (.int .i64 t.gates.length),.c 8 (.int .i64 ((t.basics.length:Int) + (t.gates.length:Int))),.c 9 (.int .i64 (M:Int)),.c 10 (.int .i64 ((X:Int) / 2 ^ M)),.c 11 (.int .i64 (bits .and .i64 ((X:Int) / 2 ^ M) 1)),.c 12 (.bool (t.fails (evN s))),.c 13 (.bool (t.fails (evN s)))]
  (by kernel_rfl) rfl (by kernel_rfl) ⟨?g0,?g1,?g2,?g3,?g4,?g5,?g6,?g7,?g8,?g9,?g10,?g11,?g12,?g13,trivial⟩ ?post
 case g0=>
  intro v w1 hx;intro K hK;exact Q8t _ rfl (by go_simp) (HB.ext (hxd.trans hx)) (hK _ _ (Ext.refl _) rfl)
 case g1 | g3 | g5=>
  intro v w1 hx;refine ⟨_,fun w=>?_,rfl⟩;go_simp
 case g2=>
  intro v w1 hx;(repeat intro (zq:v _ = _));intro K hK;go_simp;refine Q0d (HCF.out _ (HN.out.ext (hxW.trans ((Ext.refl W).drew.trans hx)))) ?_;rintro e w2 ⟨rfl,hx2⟩;exact ⟨_,rfl,hK _ _ hx2 rfl⟩
 case g4=>
  intro v w1 hx;(repeat intro (zq:v _ = _));have n14:=(HB.ext (hxd.trans hx)).n14;intro K hK;go_simp;exact hK _ _ (Ext.refl _) rfl
 case g6=>
  intro v w1 hx;(repeat intro (zq:v _ = _));have n15:=(HB.ext (hxd.trans hx)).n15;intro K hK;go_simp;exact hK _ _ (Ext.refl _) rfl
 case g7 | g8 | g9 | g10 | g11 | g12 | g13=>
  intro v w1 hx;(repeat intro (zq:v _ = _));refine ⟨_,fun w=>?_,rfl⟩;go_simp
 case post =>
  intro v w1 hx;(iterate 14 intro (zq:v _ = _));simp only [Flow.All,Flow.acts,Act.put];go_simp;go_wp2;go_ret;exact ⟨rfl,hxW.trans ((Ext.refl W).drew.trans hx)⟩
end Go.Proofs
namespace Go.Tw
open Go.RowKit Go.Flow
def Q6k (s:ByteArray):List (ByteArray × Value) -> Option Value
 | []=>none
 | p :: l=>if (s == p.1) = true then some p.2 else Q6k s l
def Y8f (s:ByteArray) (v:Value):List (ByteArray × Value) -> List (ByteArray × Value)
 | []=>[(s,v)]
 | p :: l=>if (s == p.1) = true then (s,v) :: l else p :: Y8f s v l
def Q4a (w:World) (b:Nat) (l:List (ByteArray × Value)):Prop :=
 ∃ a clock,w.heap[b]? = some (.map a clock) /\ a.toList.map (fun e=>(e.key,e.val)) = l.map fun p=>(Value.string p.1,p.2)
theorem Q4a.made (w:World):Q4a (w.alloc (.map #[] 0)) w.heap.size []:=⟨#[],0,by show (w.heap.push _)[w.heap.size]? = _; simp,rfl⟩
theorem Q4a.ext {w w':World} {b:Nat} {l:List (ByteArray × Value)} (h:Q4a w b l) (hx:Ext w w'):Q4a w' b l:=by
 obtain ⟨a,c,hb,he⟩:=h;exact ⟨a,c,by rw [Below.block hx b (Array.getElem?_eq_some_iff.1 hb).1]; exact hb,he⟩
theorem Q4a.lt {w:World} {b:Nat} {l:List (ByteArray × Value)} (h:Q4a w b l):b < w.heap.size:=by
 obtain ⟨a,c,hb,_⟩:=h;exact (Array.getElem?_eq_some_iff.1 hb).1
theorem X6e (s:ByteArray):∀ (es:List MapEntry) (l:List (ByteArray × Value)) (i:Nat),es.map (fun e=>(e.key,e.val)) = l.map (fun p=>(Value.string p.1,p.2)) ->
    ∃ r,Instr.findNow .string (.string s) es i = some r /\ r.map (·.2) = Q6k s l
 | [],[],i,_=>⟨none,rfl,rfl⟩
 | [],_ :: _,_,h=>by simp at h
 | _ :: _,[],_,h=>by simp at h
 | e :: es,p :: l,i,h=>by
   simp only [List.map_cons,List.cons.injEq,Prod.mk.injEq] at h;obtain ⟨⟨h1,h2⟩,h3⟩:=h;unfold Instr.findNow Q6k;simp only [h1,Instr.sameNow,h2];cases hs:(s == p.1) with
   | true=>exact ⟨some (i,p.2),by simp,by simp⟩
   | false =>
     obtain ⟨r,hr,hf⟩:=X6e s es l (i + 1) h3;exact ⟨r,by simpa using hr,by simpa using hf⟩
theorem Z4o (s:ByteArray):(s == s) = true:=str_eq rfl
theorem Y3u {a b:ByteArray} (h:(a == b) = true):a = b:=by
 cases hb:decide (a = b) with
 | true=>exact of_decide_eq_true hb
 | false=>rw [Q5e (of_decide_eq_false hb)] at h; cases h
theorem X7z (s:ByteArray):∀ (es:List MapEntry) (l:List (ByteArray × Value)) (i:Nat),es.map (fun e=>(e.key,e.val)) = l.map (fun p=>(Value.string p.1,p.2)) ->
    (Instr.findNow .string (.string s) es i = some none /\ ∀ v,Y8f s v l = l ++ [(s,v)]) ∨
    (∃ j x,Instr.findNow .string (.string s) es i = some (some (i + j,x)) /\ j < es.length /\ (∃ e,es[j]? = some e /\ e.key = .string s) /\ ∀ v e,e.key = Value.string s -> e.val = v ->
     (es.set j e).map (fun e=>(e.key,e.val)) = (Y8f s v l).map (fun p=>(Value.string p.1,p.2)))
 | [],[],i,_=>.inl ⟨rfl,fun v=>rfl⟩
 | [],_ :: _,_,h=>by simp at h
 | _ :: _,[],_,h=>by simp at h
 | e :: es,p :: l,i,h=>by
   simp only [List.map_cons,List.cons.injEq,Prod.mk.injEq] at h;obtain ⟨⟨h1,h2⟩,h3⟩:=h;cases hs:(s == p.1) with
   | true =>
     have hsp:=Y3u hs;refine .inr ⟨0,e.val,?_,by simp,⟨e,rfl,by rw [h1,hsp]⟩,fun v e' h4 h5=>?_⟩
     . unfold Instr.findNow
       simp only [h1,Instr.sameNow,hs]; rfl
     . unfold Y8f
       rw [if_pos hs];simp [h4,h5,h3]
   | false =>
     have hn:¬ (s == p.1) = true:=by rw [hs]; simp
     rcases X7z s es l (i + 1) h3 with ⟨ha,hb⟩ | ⟨j,x,ha,hj,⟨e0,he0,hk0⟩,hb⟩
     . refine .inl ⟨?_,fun v=>?_⟩
       . unfold Instr.findNow
         simp only [h1,Instr.sameNow,hs]; exact ha
       . unfold Y8f
         rw [if_neg hn,hb v]; rfl
     . refine .inr ⟨j + 1,x,?_,by simp; omega,⟨e0,by simpa using he0,hk0⟩,fun v e' h4 h5=>?_⟩
       . unfold Instr.findNow
         simp only [h1,Instr.sameNow,hs];rw [show i + (j + 1) = i + 1 + j from by omega]; exact ha
       . unfold Y8f
         rw [if_neg hn];simp only [List.set_cons_succ,List.map_cons,h1,h2];rw [hb v e' h4 h5]
theorem X2r {P:Program} {w:World} {r:Nat} {es:Array MapEntry} {clock:Nat} (hb:w.heap[r]? = some (.map es clock)):(getObj r).run P w = .ok (.map es clock) w:=by
 simp [getObj,Sem.run,hb]
theorem X7w {P:Program} {w:World} {r:Nat} {es:Array MapEntry} {clock:Nat} (o:Obj) (hb:w.heap[r]? = some (.map es clock)):(setObj r o).run P w = .ok () { w with heap:=w.heap.setIfInBounds r o }:=by
 simp [setObj,Sem.run,hb]
theorem X2t {P:Program} {w:World} {k:TypeId} (hk:P.underlying k = some .string) (e:Bool) (s:ByteArray) (n:Nat):(Instr.checkKey e (n + 1) k (.string s)).run P w = .ok () w:=by
 unfold Instr.checkKey;simp only [Sem.run_bind,run_underlying hk,Result.andThen_ok,Sem.run_pure]
theorem Q7r {P:Program} {w:World} {b:Nat} {l:List (ByteArray × Value)} (h:Q4a w b l) {t k e:TypeId} (ht:P.underlying t = some (.map k e)) (hk:P.underlying k = some .string) {z:Value} (hz:(zeroValue e).run P w = .ok z w) (s:ByteArray) (ok:Bool) :
    (Instr.lookup t (.map (some b)) (.string s) ok).run P w = .ok (if ok then .tuple #[(Q6k s l).getD z,.bool (Q6k s l).isSome] else (Q6k s l).getD z) w:=by
 obtain ⟨a,clock,hb,he⟩:=h;obtain ⟨r,hr,hf⟩:=X6e s a.toList l 0 he;unfold Instr.lookup;simp only [Sem.run_bind,run_underlying ht,Result.andThen_ok,X2r hb,Sem.run_pure,X2t hk _ s 9999,Instr.findKey,run_underlying hk,hr];rw [<- hf];cases r with
 | none=>simp only [Sem.run_bind,hz,Result.andThen_ok,Sem.run_pure]; cases ok <;> rfl
 | some p=>cases ok <;> rfl
theorem Q8m {P:Program} {w:World} {b:Nat} {l:List (ByteArray × Value)} (h:Q4a w b l) {t k e:TypeId} (ht:P.underlying t = some (.map k e)) (hk:P.underlying k = some .string) (s:ByteArray) (v:Value) :
    ∃ w',(Instr.mapUpdate t (.map (some b)) (.string s) v).run P w = .ok () w' /\ Q4a w' b (Y8f s v l) /\ (∀ n,n <= b -> Below n w w') /\ w.grownBy w' (some b):=by
 obtain ⟨a,clock,hb,he⟩:=h;have hlt:=(Array.getElem?_eq_some_iff.1 hb).1;have hbel:∀ o n,n <= b -> Below n w { w with heap:=w.heap.setIfInBounds b o }:=fun o n hn =>
  ⟨rfl,rfl,rfl,by simp,fun k hk'=>by show (w.heap.setIfInBounds b o)[k]? = _; rw [Array.getElem?_setIfInBounds_ne (by omega)]⟩
 have hgr:∀ o,w.grownBy { w with heap:=w.heap.setIfInBounds b o } (some b):=fun o =>
  ⟨rfl,rfl,rfl,by simp,fun k _ hk'=>by show (w.heap.setIfInBounds b o)[k]? = _; rw [Array.getElem?_setIfInBounds_ne (fun e=>hk' (by rw [e]))]⟩
 rcases X7z s a.toList l 0 he with ⟨hr,hp⟩ | ⟨j,x,hr,hj,⟨e0,he0,hk0⟩,hp⟩
 . refine ⟨{ w with heap:=w.heap.setIfInBounds b (.map (a.push ⟨.string s,v,clock⟩) (clock + 1)) },?_,⟨a.push ⟨.string s,v,clock⟩,clock + 1,?_,?_⟩,hbel _,hgr _⟩
   . unfold Instr.mapUpdate
     simp only [Sem.run_bind,run_underlying ht,Result.andThen_ok,X2r hb,Sem.run_pure,X2t hk _ s 9999,Instr.findKey,run_underlying hk,hr];exact X7w _ hb
   . show (w.heap.setIfInBounds b _)[b]? = _; simp [hlt]
   . rw [hp v]; simp [he]
 . rw [Nat.zero_add] at hr
   have he0':a[j]? = some e0:=by simpa using he0
   refine ⟨{ w with heap:=w.heap.setIfInBounds b (.map (a.modify j fun e=>{ e with key:=.string s,val:=v }) clock) },?_,⟨a.modify j fun e=>{ e with key:=.string s,val:=v },clock,?_,?_⟩,hbel _,hgr _⟩
   . unfold Instr.mapUpdate
     simp only [Sem.run_bind,run_underlying ht,Result.andThen_ok,X2r hb,Sem.run_pure,X2t hk _ s 9999,Instr.findKey,run_underlying hk,hr,he0',Option.map_some,Option.getD_some,hk0];have hkt:(Instr.keyThatStays (.string s) (.string s)).run P w = .ok (.string s) w:=by
      unfold Instr.keyThatStays;rw [if_pos (by unfold Instr.sameBits; exact Z4o s)]; rfl
     simp only [hkt,Result.andThen_ok];exact X7w _ hb
   . show (w.heap.setIfInBounds b _)[b]? = _; simp [hlt]
   . have:=hp v { e0 with key:=.string s,val:=v } rfl rfl
     rw [<- this]
     congr 1
     apply List.ext_getElem?
     intro i;rw [Array.getElem?_toList,Array.getElem?_modify,List.getElem?_set]
     by_cases hij:j = i
     . subst hij
       have hja:j < a.size:=by simpa using hj
       simp only [he0',Option.map_some,if_true,Array.length_toList,hja]
     . simp [hij]
end Go.Tw
namespace Go.Proofs
open Go.RowKit Go.Tw Go.Flow
def kv (f:Nat):Value:=.agg #[.func (.func f) #[] #[]]
def Q6n:List (ByteArray × Value):=[(X0g,kv 141),(sOr,kv 142),(Q6b,kv 143)]
theorem Y2e:Tryz.prog.underlying 170 = some (.map 9 177):=by kernel_rfl
theorem Z5w:Tryz.prog.underlying 9 = some .string:=by kernel_rfl
theorem Z8b (w:World):(zeroValue 177).run Tryz.prog w = .ok (.agg #[.nilFunc]) w:=by kernel_rfl
theorem Y0q (w:World) :
    Calls Tryz.prog 117 #[] w fun e w'=>∃ b,e = .returned (.map (some b)) /\ Q4a w' b Q6n /\ Ext w w':=by
 have hmm:=@run_makeMap Tryz.prog;obtain ⟨W1,e1,m1,b1,_⟩:=Q8m (P:=Tryz.prog) (Q4a.made w) Y2e Z5w X0g (kv 141);obtain ⟨W2,e2,m2,b2,_⟩:=Q8m (P:=Tryz.prog) m1 Y2e Z5w sOr (kv 142);obtain ⟨W3,e3,m3,b3,_⟩:=Q8m (P:=Tryz.prog) m2 Y2e Z5w Q6b (kv 143);have hx:Ext w W3:=Below.trans (Below.trans (Below.trans (Ext.box w (.map #[] 0)) (b1 w.heap.size (Nat.le_refl _))) (b2 w.heap.size (Nat.le_refl _))) (b3 w.heap.size (Nat.le_refl _));have HM:Hid (Q4a W3 w.heap.size Q6n):=m3;clear m1 m2 m3 b1 b2 b3;unfold kv X0g at e1;unfold kv sOr at e2;unfold kv Q6b at e3;go_enter Tryz.func117,Tryz.ntmps117;go_wp2;go_ret;exact ⟨_,rfl,HM.out,hx⟩
theorem Z0g (w:World) (k v:Value) (n:Int) (l:List Int) (hv:Q0e w v l) :
    Calls Tryz.prog 141 #[.agg #[k,.int .i64 n,v]] w fun e w'=>e = .returned (.int .i64 l.length) /\ Ext w w':=by
 obtain ⟨A,cap,rfl,hl,hcap,hc⟩:=hv.opened;clear hv hc;go_enter Tryz.func141,Tryz.ntmps141;go_wp2;go_ret;exact ⟨rfl,Ext.box _ _⟩
theorem Y9j (w:World) (k v:Value) (n:Int) :
    Calls Tryz.prog 142 #[.agg #[k,.int .i64 n,v]] w fun e w'=>e = .returned (.int .i64 1) /\ Ext w w':=by
 go_enter Tryz.func142,Tryz.ntmps142;go_wp2;go_ret;exact ⟨rfl,Ext.box _ _⟩
theorem Y9k (w:World) (k v:Value) (n:Int) :
    Calls Tryz.prog 143 #[.agg #[k,.int .i64 n,v]] w fun e w'=>e = .returned (.int .i64 n) /\ Ext w w':=by
 go_enter Tryz.func143,Tryz.ntmps143;go_wp2;go_ret;exact ⟨rfl,Ext.box _ _⟩
end Go.Proofs
namespace Go.Tw
open Go.RowKit Go.Flow
def idV (x:Value):Value:=x
def Reads (w:World) (vs:List Value) (ll:List (List Int)):Prop:=vs.length = ll.length /\ ∀ i,i < ll.length -> Q0e w (vs.getD i undef) (ll.getD i [])
theorem Reads.ext {w w':World} {vs:List Value} {ll:List (List Int)} (h:Reads w vs ll) (hx:Ext w w'):Reads w' vs ll:=⟨h.1,fun i hi=>(h.2 i hi).ext hx⟩
theorem Q0e.below {w w':World} {B:Nat} {v:Value} {l:List Int} (h:Q0e w v l) (hb:Below B w w') (hlow:∀ b o c,v = .slice (some ⟨b,o,none⟩) l.length c -> l ≠ [] -> b < B):Q0e w' v l:=by
 obtain ⟨c,⟨A,cap,hv,hn,hcap,hc⟩,h2⟩:=h;refine ⟨c,⟨A,cap,hv,hn,hcap,fun j hj=>?_⟩,h2⟩;obtain ⟨b,off,hA,h⟩:=hc j hj;refine ⟨b,off,hA,?_⟩;have:b < B:=hlow b off cap (by rw [hv,hA]) (fun e=>by rw [e] at hj; simp at hj)
 exact (hb.cell (p:=⟨b,off + j,none⟩) this).trans h
theorem Reads.snoc {w:World} {vs:List Value} {ll:List (List Int)} {v:Value} {l:List Int} (h:Reads w vs ll) (hv:Q0e w v l):Reads w (vs ++ [v]) (ll ++ [l]):=by
 refine ⟨by simp [h.1],fun i hi=>?_⟩
 rw [List.length_append,List.length_singleton] at hi
 by_cases hlt:i < ll.length
 . have e1:(vs ++ [v]).getD i undef = vs.getD i undef:=by simp [List.getElem?_append_left (show i < vs.length by rw [h.1]; exact hlt)]
   have e2:(ll ++ [l]).getD i [] = ll.getD i []:=by simp [List.getElem?_append_left hlt]
   rw [e1,e2]; exact h.2 i hlt
 . have e:i = ll.length:=by omega
   have e1:(vs ++ [v]).getD i undef = v:=by rw [e,<- h.1]; simp
   have e2:(ll ++ [l]).getD i [] = l:=by rw [e]; simp
   rw [e1,e2]; exact hv
theorem Q0s.Z9u {w:World} {base:Nat} {e:TypeId} {v:Value} {vs:List Value} {ll:List (List Int)} (h:Q0s w base e idV v vs) (hr:Reads w vs ll) (hl:ll.length <= 17592186043904):Q1v w v ll:=by
 refine ⟨fun k=>vs.getD k undef,?_,fun j hj=>?_⟩
 . rw [<- hr.1]
   exact h.row (by rw [hr.1]; exact hl) _ (fun k hk=>by simp [hk,idV])
 . have:=hr.2 j hj
   rw [Q3w _ hj] at this
   simpa using this
theorem Q1v.opened {w:World} {v:Value} {ll:List (List Int)} (h:Q1v w v ll) :
    ∃ A cap,v = .slice A ll.length cap /\ ll.length <= 17592186043904 /\ ll.length <= cap /\ ∀ k,k < ll.length -> ∃ b off m,A = some ⟨b,off,none⟩ /\ b < w.heap.size /\ w.cell? ⟨b,off + k,none⟩ = some m /\ Q0e w m (ll.getD k []):=by
 obtain ⟨c,⟨A,cap,hv,hn,hcap,hc⟩,h2⟩:=h;refine ⟨A,cap,hv,hn,hcap,fun k hk=>?_⟩;obtain ⟨b,off,hA,h⟩:=hc k (by omega)
 refine ⟨b,off,c k,hA,World.block_lt_of_cell? w _ h,h,?_⟩;have:=h2 k hk;simp only [Nat.mul_one,Nat.add_zero] at this;rw [Q3w _ hk]; exact this
theorem Q0s.cells {α:Type} {w:World} {base:Nat} {e:TypeId} {enc:α -> Value} {v:Value} {xs:List α} (h:Q0s w base e enc v xs) :
    ∃ A c,v = .slice A xs.length c /\ xs.length <= c /\ (∀ j (hj:j < xs.length),∃ g,A = some ⟨g,0,none⟩ /\ base <= g /\ g < w.heap.size /\ w.cell? ⟨g,0 + j,none⟩ = some (enc xs[j])):=by
 obtain ⟨_,h2⟩:=h
 rcases h2 with ⟨rfl,h0⟩ | ⟨g,cap,cur,rfl,hb,hg,hcap,_,_,htake⟩
 . exact ⟨none,0,by rw [h0],by omega,fun j hj=>by omega⟩
 . refine ⟨some ⟨g,0,none⟩,cap,rfl,hcap,fun j hj=>⟨g,rfl,hb,(Array.getElem?_eq_some_iff.1 hg).1,?_⟩⟩
   rw [Nat.zero_add];have h1:=congrArg (fun l=>l[j]?) htake;simp only [Nat.mul_one,List.getElem?_take,hj,if_true,List.getElem?_map,List.getElem?_eq_getElem hj,Option.map_some] at h1;simp only [World.cell?,hg]
   simpa using h1
theorem Q0s.cells2 {α:Type} {w:World} {base:Nat} {e:TypeId} {enc:α -> Value} {v:Value} {xs:List α} (h:Q0s w base e enc v xs) :
    (v = .slice none 0 0 /\ xs = []) ∨ ∃ g c,v = .slice (some ⟨g,0,none⟩) xs.length c /\ xs.length <= c /\ base <= g /\ g < w.heap.size /\ ∀ j (hj:j < xs.length),w.cell? ⟨g,0 + j,none⟩ = some (enc xs[j]):=by
 obtain ⟨_,h2⟩:=h
 rcases h2 with ⟨rfl,h0⟩ | ⟨g,cap,cur,rfl,hb,hg,hcap,_,_,htake⟩
 . exact .inl ⟨rfl,List.length_eq_zero_iff.1 h0⟩
 . refine .inr ⟨g,cap,rfl,hcap,hb,(Array.getElem?_eq_some_iff.1 hg).1,fun j hj=>?_⟩
   rw [Nat.zero_add];have h1:=congrArg (fun l=>l[j]?) htake;simp only [Nat.mul_one,List.getElem?_take,hj,if_true,List.getElem?_map,List.getElem?_eq_getElem hj,Option.map_some] at h1;simp only [World.cell?,hg]
   simpa using h1
theorem Q0s.weaken {α:Type} {w:World} {base base':Nat} {e:TypeId} {enc:α -> Value} {v:Value} {xs:List α} (h:Q0s w base e enc v xs) (hb:base' <= base):Q0s w base' e enc v xs:=by
 obtain ⟨h1,h2⟩:=h;refine ⟨h1,?_⟩
 rcases h2 with h2 | ⟨g,cap,cur,hv,hbg,r⟩
 . exact .inl h2
 . exact .inr ⟨g,cap,cur,hv,Nat.le_trans hb hbg,r⟩
theorem Q0e.one {w:World} {v:Value} {l:List Int} (h:Q0e w v l):(idV v).oneCell' = true:=by
 obtain ⟨A,cap,rfl,_⟩:=h.opened;rfl
theorem Q0e.cells {w:World} {v:Value} {l:List Int} (h:Q0e w v l):v.cells = #[v]:=by
 obtain ⟨A,cap,rfl,_⟩:=h.opened;rfl
theorem Reads.one {w:World} {vs:List Value} {ll:List (List Int)} (h:Reads w vs ll):∀ y ∈ vs,(idV y).oneCell' = true:=by
 intro y hy;obtain ⟨i,hi,rfl⟩:=List.getElem_of_mem hy;have:=h.2 i (by rw [<- h.1]; exact hi)
 rw [Q3w _ hi] at this;exact this.one
def X1v (w:World) (v:Value) (B:Nat) (e:TypeId):Prop:=∃ g,v = .slice (some ⟨g,0,none⟩) 0 0 /\ B <= g /\ w.heap[g]? = some (.cells #[] e (0,0))
theorem X1v.ext {w w':World} {v:Value} {B:Nat} {e:TypeId} (h:X1v w v B e) (hx:Ext w w'):X1v w' v B e :=
 let ⟨g,h1,h2,h3⟩:=h; ⟨g,h1,h2,(Below.block hx g (Array.getElem?_eq_some_iff.1 h3).1).trans h3⟩
theorem X1v.made (w:World) (B:Nat) (e:TypeId) (h:B <= w.heap.size):X1v (w.alloc (.cells #[] e)) (.slice (some ⟨w.heap.size,0,none⟩) 0 0) B e:=⟨_,rfl,h,heap_alloc_new w _⟩
def Q7e (w:World) (v:Value) (x:Value):Prop:=∃ g,v = .slice (some ⟨g,0,none⟩) 1 1 /\ w.cell? ⟨g,0,none⟩ = some x
theorem Q7e.ext {w w':World} {v x:Value} (h:Q7e w v x) (hx:Ext w w'):Q7e w' v x:=let ⟨g,h1,h2⟩:=h; ⟨g,h1,hx.cell h2⟩
theorem Q7e.made (w:World) (x:Value) (e:TypeId):Q7e (w.alloc (.cells #[x] e)) (.slice (some ⟨w.heap.size,0,none⟩) 1 1) x:=⟨_,rfl,Q0w _ _ _ _⟩
theorem Q7e.src {w:World} {v x:Value} (h:Q7e w v x):Src w idV v [x]:=by
 obtain ⟨g,rfl,hc⟩:=h;refine ⟨_,_,rfl,fun j hj=>⟨g,0,rfl,?_⟩⟩;obtain rfl:j = 0:=by rw [List.length_singleton] at hj; omega
 exact hc
theorem Q0e.made (w:World) (xs:List Int) (e:TypeId) (h:xs.length <= 17592186043904):Q0e (w.alloc (.cells (xs.map (Value.int .i64)).toArray e)) (.slice (some ⟨w.heap.size,0,none⟩) xs.length xs.length) xs:=by
 refine ⟨fun k=>((xs.map (Value.int .i64))[k]?).getD undef,⟨_,_,rfl,h,Nat.le_refl _,fun j hj=>⟨_,0,rfl,?_⟩⟩,fun j hj=>?_⟩
 . have hj':j < xs.length:=by omega
   rw [Nat.zero_add,Q0w];simp [hj']
 . simp [hj]
end Go.Tw
namespace Go.Proofs
open Go.RowKit Go.Tw Go.Flow
theorem Tryz.Z8e:(Tryz.prog.info? 40).map (fun i=>(i.zero,i.size,i.bytes)) = some (some (.slice none 0 0),1,24):=by kernel_rfl
def X3b (t:Tree) (p:Bool) (n:Nat):List (List Int):=(List.range n).foldl (fun out s=>if t.Q7f (bitsOf s) p then Q5s (bitsOf s) out else out) []
theorem X5p (t:Tree) (p:Bool) (n:Nat):X3b t p (n + 1) = if t.Q7f (bitsOf n) p then Q5s (bitsOf n) (X3b t p n) else X3b t p n:=by
 unfold X3b; rw [List.range_succ,List.foldl_append]; rfl
theorem X6y (l:List Int) (out:List (List Int)):∀ n,Q5m l out n <= n
 | 0=>Nat.le_refl _
 | n + 1=>by
   unfold Q5m
   split
   . exact Nat.le_trans (X6y l out n) (by omega)
   . exact Nat.le_refl _
end Go.Proofs
namespace Go.Proofs
open Go.RowKit Go.Tw Go.Flow
def Q6v (t:Tree) (n:Nat):List Int:=((List.range n).map Int.ofNat).filter fun x=>t.fails (evL [x])
theorem X9f (t:Tree) (n:Nat):Q6v t (n + 1) = Q6v t n ++ if t.fails (evL [(n:Int)]) then [(n:Int)] else []:=by
 unfold Q6v;rw [List.range_succ,List.map_append,List.filter_append];cases h:t.fails (evL [(n:Int)]) <;> simp [h]
theorem X3j (t:Tree) (n:Nat):(Q6v t n).length <= n:=by
 unfold Q6v; exact Nat.le_trans (List.length_filter_le _ _) (by simp)
end Go.Proofs
namespace Go.Proofs
open Go.RowKit Go.Tw Go.Flow
theorem Y5y {s:Nat} (hs:s < 65536):evL (bitsOf s) = evN s:=by
 funext i
 unfold evL evN has bitsOf;rw [Bool.eq_iff_iff];simp only [List.contains_iff_mem,List.mem_map,List.mem_filter,List.mem_range]
 constructor
 . rintro ⟨a,⟨_,h⟩,he⟩
   have:a = i:=by have:(a:Int) = (i:Int):=he; omega
   rw [<- this]; exact h
 . intro h
   refine ⟨i,⟨?_,h⟩,rfl⟩
   rcases Nat.lt_or_ge i 16 with h' | h'
   . exact h'
   . rw [Nat.testBit_lt_two_pow (Nat.lt_of_lt_of_le hs (Nat.pow_le_pow_right (n:=2) (by omega) h'))] at h
     cases h
structure Small (c:List Int):Prop where
 len:c.length <= 12
 range:∀ x ∈ c,0 <= x /\ x <= 16
theorem Small.ix {c:List Int} (h:Small c) {j:Nat} (hj:j < c.length):0 <= ix c j /\ ix c j <= 16:=by
 rw [Q6t hj]; exact h.range _ (List.getElem_mem hj)
theorem Small.factor {c:List Int} (h:Small c) (s:Nat) {j:Nat} (hj:j < c.length):0 <= factor c s j /\ factor c s j <= 16:=by
 have:=h.ix hj;unfold Tw.factor
 split <;> omega
theorem Y0z {c:List Int} (h:Small c) (s:Nat):∀ j,j <= c.length -> 0 <= Q7k c s j /\ Q7k c s j <= 16 ^ j
 | 0,_=>by simp [Q7k]
 | j + 1,hj=>by
   obtain ⟨h1,h2⟩:=Y0z h s j (by omega)
   obtain ⟨h3,h4⟩:=h.factor s (show j < c.length by omega)
   unfold Q7k;refine ⟨Int.mul_nonneg h1 h3,?_⟩;rw [Int.pow_succ];exact Int.mul_le_mul h2 h4 h3 (Int.le_trans h1 h2)
theorem Z4n {j:Nat} (h:j <= 12):(16:Int) ^ j <= 281474976710656:=by
 have:(16:Nat) ^ j <= 16 ^ 12:=Nat.pow_le_pow_right (by omega) h
 have h2:((16 ^ j:Nat):Int) <= ((16 ^ 12:Nat):Int):=by exact_mod_cast this
 simpa using h2
theorem X1x {c:List Int} (h:Small c) (s:Nat) {j:Nat} (hj:j <= c.length):0 <= Q7k c s j /\ Q7k c s j <= 281474976710656:=by
 have:=Y0z h s j hj;have h2:=Z4n (show j <= 12 from Nat.le_trans hj h.len)
 omega
end Go.Proofs
namespace Go.Proofs
open Go.RowKit Go.Tw Go.Flow
theorem Z2s (a b:Int) (h0:0 <= a) (hb:0 < b):Int.gcd b (a.tmod b) = Int.gcd a b:=by
 obtain ⟨n,rfl⟩:=Int.eq_ofNat_of_zero_le h0;obtain ⟨m,rfl⟩:=Int.eq_ofNat_of_zero_le (Int.le_of_lt hb);show Nat.gcd m (n % m) = Nat.gcd n m;rw [Nat.gcd_comm n m,Nat.gcd_comm m,<- Nat.gcd_rec]
theorem Ext.frozen {a b:World} (h:Ext a b) {p:Addr} (hp:p.block < a.heap.size):b.frozen? p = a.frozen? p:=by
 obtain ⟨_,_,_,_,h5⟩:=h;unfold World.frozen?; rw [h5 _ hp]
theorem wrap_in {n:Int} (h1:-9223372036854775808 <= n) (h2:n <= 9223372036854775807):IntKind.i64.wrap n = n:=by
 simp only [IntKind.wrap,IntKind.bits,IntKind.signed,Bool.true_and,decide_eq_true_eq,ge_iff_le]
 split <;> omega
theorem Q9m (w:World) (cs:Array Value) (e:TypeId) (i:Nat):(w.alloc (.cells cs e)).frozen? ⟨w.heap.size,i,none⟩ = false:=by
 have h:(w.alloc (.cells cs e)).heap[w.heap.size]? = some (.cells cs e):=by show (w.heap.push _)[_]? = _; simp
 unfold World.frozen?; rw [h]; simp
end Go.Proofs
namespace Go.Proofs
open Go.RowKit Go.Tw Go.Flow
theorem _root_.Go.Tw.Q0s.spot {w:World} {base:Nat} {e:TypeId} {v:Value} {l:List Int} (h:Q0s w base e (Value.int .i64) v l) (h0:0 < l.length) :
    ∃ g cap,v = .slice (some ⟨g,0,none⟩) l.length cap /\ base <= g /\ l.length <= cap:=by
 rcases h.2 with ⟨rfl,hn⟩ | ⟨g,cap,cur,hv,hb,hg,hc,_⟩
 . omega
 . exact ⟨g,cap,hv,hb,hc⟩
theorem _root_.Go.Tw.Q0s.at {w:World} {base:Nat} {e:TypeId} {g cap n:Nat} {l:List Int} (h:Q0s w base e (Value.int .i64) (.slice (some ⟨g,0,none⟩) n cap) l) {j:Nat} (hj:j < l.length) :
    w.cell? ⟨g,j,none⟩ = some (.int .i64 (ix l j)) /\ w.frozen? ⟨g,j,none⟩ = false:=by
 rcases h.2 with ⟨hv,hn⟩ | ⟨g',cap',cur,hv,hb,hg,hc,hm,hs,ht⟩
 . cases hv
 . injection hv with h1 h2 h3
   injection h1 with h1;injection h1 with h1;subst h1;have h1:=congrArg (fun l=>l[j]?) ht;simp only [Nat.mul_one,List.getElem?_take,hj,if_true,List.getElem?_map,List.getElem?_eq_getElem hj,Option.map_some] at h1;refine ⟨?_,?_⟩
   . rw [Q6t hj]; simp only [World.cell?,hg]; simpa using h1
   . unfold World.frozen?; rw [hg]; simp
theorem _root_.Go.Tw.Q0s.set {w:World} {base:Nat} {e:TypeId} {g cap n:Nat} {l:List Int} (h:Q0s w base e (Value.int .i64) (.slice (some ⟨g,0,none⟩) n cap) l) {j:Nat} (x:Int) :
    Q0s (w.setCell ⟨g,j,none⟩ (.int .i64 x)) base e (Value.int .i64) (.slice (some ⟨g,0,none⟩) n cap) (l.set j x):=by
 refine ⟨by simp,?_⟩
 rcases h.2 with ⟨hv,hn⟩ | ⟨g',cap',cur,hv,hb,hg,hc,hm,hs,ht⟩
 . cases hv
 . injection hv with h1 h2 h3
   injection h1 with h1;injection h1 with h1;subst h1 h3;refine .inr ⟨g,cap,cur.setIfInBounds j (.int .i64 x),by rw [List.length_set,h2],hb,?_,by simpa using hc,hm,by simpa using hs,?_⟩
   . simp only [World.setCell,Array.getElem?_modify,if_true,hg,Option.map_some]; rfl
   . rw [Array.toList_setIfInBounds,List.take_set,List.length_set,ht,List.map_set]
def Q8s (c l:List Int) (n:Int) (k:Nat):List Int:=(List.range c.length).map fun (i:Nat)=>if has (l.take k) i then n else ix c i
end Go.Proofs
namespace Go.Proofs
open Go.RowKit Go.Tw Go.Flow
theorem Y9d {W:World} {g:Nat} {x y u0 u1:Value} (h0:W.cell? ⟨g,0,none⟩ = some u0) (h1:W.cell? ⟨g,1,none⟩ = some u1) :
    ((W.setCell ⟨g,0,none⟩ x).setCell ⟨g,1,none⟩ y).cell? ⟨g,0,none⟩ = some x /\ ((W.setCell ⟨g,0,none⟩ x).setCell ⟨g,1,none⟩ y).cell? ⟨g,1,none⟩ = some y:=by
 refine ⟨Eq.trans (World.cell?_setCell_other _ _ _ _ ?_) (World.cell?_setCell_same _ _ _ h0),World.cell?_setCell_same _ _ _ (Eq.trans (World.cell?_setCell_other _ _ _ _ ?_) h1)⟩
 . intro h; cases h
 . intro h; cases h
theorem _root_.Go.Tw.Ext.Y9d {w W:World} (h:Ext w W) {g:Nat} (hg:w.heap.size <= g) (x y:Value):Ext w ((W.setCell ⟨g,0,none⟩ x).setCell ⟨g,1,none⟩ y) :=
 (h.setCell (p:=⟨g,0,none⟩) hg x).setCell (p:=⟨g,1,none⟩) hg y
structure Res (w:World) (g:Nat):Prop where
 c0:w.cell? ⟨g,0,none⟩ = some (.int .i64 0)
 c1:w.cell? ⟨g,1,none⟩ = some (.int .i64 0)
 f0:w.frozen? ⟨g,0,none⟩ = false
 f1:w.frozen? ⟨g,1,none⟩ = false
theorem Res.ext {w w':World} {g:Nat} (h:Res w g) (hx:Ext w w'):Res w' g :=
 have hb:=World.block_lt_of_cell? w _ h.c0
 ⟨hx.cell h.c0,hx.cell h.c1,(hx.frozen (p:=⟨g,0,none⟩) hb).trans h.f0,(hx.frozen (p:=⟨g,1,none⟩) hb).trans h.f1⟩
theorem Res.new (w:World) (T:TypeId):Res (w.alloc (.cells #[.int .i64 0,.int .i64 0] T)) w.heap.size :=
 ⟨Q0w w #[.int .i64 0,.int .i64 0] T 0,Q0w w #[.int .i64 0,.int .i64 0] T 1,Q9m _ _ _ _,Q9m _ _ _ _⟩
theorem Res.new1 (w:World) (o:Obj) (T:TypeId):Res ((w.alloc o).alloc (.cells #[.int .i64 0,.int .i64 0] T)) (w.heap.size + 1):=by
 have h:=Res.new (w.alloc o) T;have e:(w.alloc o).heap.size = w.heap.size + 1:=by show (w.heap.push _).size = _; rw [Array.size_push]
 rwa [e] at h
end Go.Proofs
