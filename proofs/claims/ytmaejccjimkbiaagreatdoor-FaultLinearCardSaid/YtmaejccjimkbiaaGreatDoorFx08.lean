/- Contracts: cut sets and path sets as bits. Maps with string keys that a call makes, as lists of pairs: look-ups and stores. Contracts: the kinds of gates, what one of them needs, a gate's mask and need, its error. A list of lists that a call makes and appends to. The contract of the reference's sets, in order. Contracts: the reference's Cuts, Paths, Single, CheckSet, CheckSets, contains, CheckCuts. -/
import Derived.Test.YtmaejccjimkbiaaGreatDoorFx07
import Derived.Test.YtmaejccjimkbiaaGreatDoorFx05
import Derived.Maps.OwnSet
import Derived.MapKept
import Derived.IntWalk
set_option linter.unusedVariables false
set_option linter.unusedSimpArgs false
set_option linter.constructorNameAsVariable false
namespace Go.Proofs
open Go.RowKit Go.Tw Go.Flow
structure X3n (w:World) (g:Nat) (t:Tree) (c:List Int) (fv gv:Value):Prop where
 n0:w.cell? ⟨g,0,none⟩ = some (.int .i64 t.size)
 n1:w.cell? ⟨g,1,none⟩ = some (fv)
 n2:w.cell? ⟨g,2,none⟩ = some (.int .i64 (ix c 0))
 n3:w.cell? ⟨g,3,none⟩ = some (.int .i64 (ix c 1))
 n4:w.cell? ⟨g,4,none⟩ = some (.int .i64 (ix c 2))
 n5:w.cell? ⟨g,5,none⟩ = some (.int .i64 (ix c 3))
 n6:w.cell? ⟨g,6,none⟩ = some (.int .i64 (ix c 4))
 n7:w.cell? ⟨g,7,none⟩ = some (.int .i64 (ix c 5))
 n8:w.cell? ⟨g,8,none⟩ = some (.int .i64 (ix c 6))
 n9:w.cell? ⟨g,9,none⟩ = some (.int .i64 (ix c 7))
 n10:w.cell? ⟨g,10,none⟩ = some (.int .i64 (ix c 8))
 n11:w.cell? ⟨g,11,none⟩ = some (.int .i64 (ix c 9))
 n12:w.cell? ⟨g,12,none⟩ = some (.int .i64 (ix c 10))
 n13:w.cell? ⟨g,13,none⟩ = some (.int .i64 (ix c 11))
 n14:w.cell? ⟨g,14,none⟩ = some (.int .i64 t.basics.length)
 n15:w.cell? ⟨g,15,none⟩ = some (gv)
theorem X3n.ext {w w':World} {g:Nat} {t:Tree} {c:List Int} {fv gv:Value} (h:X3n w g t c fv gv) (hx:Ext w w'):X3n w' g t c fv gv :=
 ⟨hx.cell h.n0,hx.cell h.n1,hx.cell h.n2,hx.cell h.n3,hx.cell h.n4,hx.cell h.n5,hx.cell h.n6,hx.cell h.n7,hx.cell h.n8,hx.cell h.n9,hx.cell h.n10,hx.cell h.n11,hx.cell h.n12,hx.cell h.n13,hx.cell h.n14,hx.cell h.n15⟩
theorem X3n.new (w:World) (T:TypeId) (t:Tree) (c:List Int) (fv gv:Value):X3n (w.alloc (.cells #[.int .i64 t.size,fv,.int .i64 (ix c 0),.int .i64 (ix c 1),.int .i64 (ix c 2),.int .i64 (ix c 3),.int .i64 (ix c 4),.int .i64 (ix c 5),.int .i64 (ix c 6),.int .i64 (ix c 7),.int .i64 (ix c 8),.int .i64 (ix c 9),.int .i64 (ix c 10),.int .i64 (ix c 11),.int .i64 t.basics.length,gv] T)) w.heap.size t c fv gv :=
 ⟨Q0z _ _ _ 0,Q0z _ _ _ 1,Q0z _ _ _ 2,Q0z _ _ _ 3,Q0z _ _ _ 4,Q0z _ _ _ 5,Q0z _ _ _ 6,Q0z _ _ _ 7,Q0z _ _ _ 8,Q0z _ _ _ 9,Q0z _ _ _ 10,Q0z _ _ _ 11,Q0z _ _ _ 12,Q0z _ _ _ 13,Q0z _ _ _ 14,Q0z _ _ _ 15⟩
theorem Q9f {P:Program} {w:World} {g:Nat} (cs:Nat → Value):∀ (n i:Nat) (acc:Array Value),(∀ k,k < n → w.cell? ⟨g,i + k,none⟩ = some (cs (i + k))) →
    (loadCellsFrom ⟨g,0,none⟩ i n acc).run P w = .ok (acc ++ ((List.range' i n).map cs).toArray) w
 | 0,i,acc,_=>by simp [loadCellsFrom]
 | n + 1,i,acc,h=>by
   have h0:=h 0 (by omega)
   rw [Nat.add_zero] at h0;have ea:(⟨g,0,none⟩:Addr).add i = ⟨g,i,none⟩:=by rw [addr_add,Nat.zero_add]
   rw [loadCellsFrom,ea];simp only [Sem.run_bind,load,Sem.run,h0,Result.andThen_ok];rw [Q9f cs n (i + 1) _ (fun k hk=>by have:=h (k + 1) (by omega); rwa [show i + (k + 1) = i + 1 + k from by omega] at this)]
   simp [List.range'_succ]
theorem X6d {w:World} {g:Nat} {t:Tree} {c:List Int} {fv gv:Value} (R:X3n w g t c fv gv):(loadVar 121 ⟨g,0,none⟩).run Tryz.prog w = .ok (noV t c fv gv) w:=by
 have h1:(isAgg 121).run Tryz.prog w = .ok true w:=by kernel_rfl
 have h2:(sizeOf 121).run Tryz.prog w = .ok 16 w:=by kernel_rfl
 have h3:(loadCells ⟨g,0,none⟩ 16).run Tryz.prog w = .ok (noV t c fv gv).cells w:=by
  obtain ⟨n0,n1,n2,n3,n4,n5,n6,n7,n8,n9,n10,n11,n12,n13,n14,n15⟩:=R;have:=Q9f (P:=Tryz.prog) (w:=w) (g:=g) (fun k=>((noV t c fv gv).cells[k]?).getD undef) 16 0 #[] (fun k hk=>by
   rw [Nat.zero_add];have:k = 0 ∨ k = 1 ∨ k = 2 ∨ k = 3 ∨ k = 4 ∨ k = 5 ∨ k = 6 ∨ k = 7 ∨ k = 8 ∨ k = 9 ∨ k = 10 ∨ k = 11 ∨ k = 12 ∨ k = 13 ∨ k = 14 ∨ k = 15:=by omega
   rcases this with rfl | rfl | rfl | rfl | rfl | rfl | rfl | rfl | rfl | rfl | rfl | rfl | rfl | rfl | rfl | rfl <;> assumption)
  exact this
 unfold loadVar;simp only [Sem.run_bind,h1,h2,h3,Result.andThen_ok,if_true,Sem.run_pure];rfl
theorem X3l {w:World} {g:Nat} {t:Tree} {c:List Int} {fv gv:Value} (R:X3n w g t c fv gv):(Instr.loadAt 121 (.pointer (some ⟨g,0,none⟩))).run Tryz.prog w = .ok (noV t c fv gv) w:=by
 unfold Instr.loadAt;simp only [Sem.run_bind,Instr.sureAddr,Sem.run_pure,Result.andThen_ok,X6d R]
theorem Q8y {K:Value → World → Prop} {o:Oper} {a:Act} {w:World} (p:Operand) (ho:o.op = .load 121 p) {g:Nat} (hp:a.eval p = .pointer (some ⟨g,0,none⟩)) {t:Tree} {c:List Int} {fv gv:Value} (R:X3n w g t c fv gv)
    (h:K (noV t c fv gv) w):gives Tryz.prog K ((execOp a.eval o).run Tryz.prog w):=by
 unfold execOp;simp only [ho,hp,Sem.run_bind,X3l R,Result.andThen_ok];exact h
theorem Y9l (t:Tree) (ev:Nat → Bool):(Q4l (t.states ev)).testBit (t.nodes - 1) = t.fails ev:=Q4n _ _
set_option maxRecDepth 100000 in
set_option maxHeartbeats 1000000 in
theorem Q7x (w:World) (fv gv:Value) (t:Tree) (c:List Int) (s:Nat) (hv:Valid t) (hs:s < 2 ^ t.size) (hn:X8r w fv gv t) :
    Calls Tryz.prog 69 #[noV t c fv gv,.int .i64 s] w fun e w'=>e = .returned (.bool (t.fails (evN s))) ∧ Ext w w':=by
 have HN:=Lib.hid hn;obtain ⟨A2,cap2,hgv,hl2,hcap2,_⟩:=hn.gates.opened;have hsz:=hv.size;have hng:=hv.ng';have hnb:=hv.nb;have hng1:=hv.ng;have HV:=Lib.hid hv;have HS:=Lib.hid hs;have hsb:t.basics.length ≤ 12:=by unfold Tree.size at hsz; omega
 obtain ⟨M,hM⟩:∃ M,t.nodes = M + 1:=⟨t.nodes - 1,by unfold Tree.nodes; omega⟩
 have hM1:(t.basics.length:Int) + (t.gates.length:Int) - 1 = (M:Int):=by unfold Tree.nodes at hM; omega
 have hwM:IntKind.i64.wrap (M:Int) = (M:Int):=Q6d _ (by omega) (by unfold Tree.nodes at hM; omega)
 have hwS:IntKind.i64.wrap ((t.basics.length:Int) + (t.gates.length:Int)) = (t.basics.length:Int) + (t.gates.length:Int):=Q6d _ (by omega) (by omega)
 have hM2:M < 62:=by unfold Tree.nodes at hM; omega
 have hFB:Hid ((Q4l (t.states (evN s))).testBit M = t.fails (evN s)):=by
  exact (by have:=Y9l t (evN s); rwa [hM,Nat.add_sub_cancel] at this:(Q4l (t.states (evN s))).testBit M = t.fails (evN s))
 have hX:Q4l (t.states (evN s)) < 2 ^ 62:=Nat.lt_of_lt_of_le (hv.X7p (evN s) (Nat.le_refl _)) (by decide)
 have HB:=X3n.new w 121 t c fv gv;obtain ⟨X,hXe⟩:∃ X,Q4l (t.states (evN s)) = X:=⟨_,rfl⟩;have HCF:Hid (∀ w',X8r w' fv gv t → Calls Tryz.prog 120 #[noV t c fv gv,.int .i64 s] w' fun e w''=>e = .returned (.int .i64 (X:Nat)) ∧ Ext w' w''):=by
  exact (by intro w' h; rw [← hXe]; exact X5a _ _ _ t c s hv hs h:∀ w',X8r w' fv gv t → Calls Tryz.prog 120 #[noV t c fv gv,.int .i64 s] w' fun e w''=>e = .returned (.int .i64 (X:Nat)) ∧ Ext w' w'')
 rw [hXe] at hX hFB;have hb1:=Q9w hX M;rw [hFB.out] at hb1;subst hgv;clear hn hv hs hM hXe hX;unfold noV;go_enter Tryz.func69,Tryz.ntmps69;go_wp2;have hxW:=Ext.box w (.cells #[.int .i64 t.size,fv,.int .i64 (ix c 0),.int .i64 (ix c 1),.int .i64 (ix c 2),.int .i64 (ix c 3),.int .i64 (ix c 4),.int .i64 (ix c 5),.int .i64 (ix c 6),.int .i64 (ix c 7),.int .i64 (ix c 8),.int .i64 (ix c 9),.int .i64 (ix c 10),.int .i64 (ix c 11),.int .i64 t.basics.length,.slice A2 t.gates.length cap2] 121);obtain ⟨W,hW⟩:∃ W,w.alloc (.cells #[.int .i64 t.size,fv,.int .i64 (ix c 0),.int .i64 (ix c 1),.int .i64 (ix c 2),.int .i64 (ix c 3),.int .i64 (ix c 4),.int .i64 (ix c 5),.int .i64 (ix c 6),.int .i64 (ix c 7),.int .i64 (ix c 8),.int .i64 (ix c 9),.int .i64 (ix c 10),.int .i64 (ix c 11),.int .i64 t.basics.length,.slice A2 t.gates.length cap2] 121) = W:=⟨_,rfl⟩;rw [hW] at HB hxW ⊢;clear hW;have hxd:=(Ext.refl W).drew;refine Flow.Q7w [.world,.plain,.world,.plain,.world,.plain,.world,.plain,.plain,.plain,.plain,.plain,.plain,.plain] [0,1,2,3,4,5,6,7,8,9,10,11,12,13] [[],[],[0,1],[],[3],[],[5],[6],[4,7],[8],[2,9],[10],[11],[0,1,2,3,4,5,6,7,8,9,10,11,12]]
  [.is 0 (fun v=>noV t c fv (.slice A2 t.gates.length cap2)),.is 1 (fun v=>.int .i64 s),.is 2 (fun v=>.int .i64 (X:Nat)),.is 3 (fun v=>.pointer (some ⟨w.heap.size,14,none⟩)),.is 4 (fun v=>.int .i64 t.basics.length),.is 5 (fun v=>.pointer (some ⟨w.heap.size,15,none⟩)),.is 6 (fun v=>.slice A2 t.gates.length cap2),.is 7 (fun v=>.int .i64 t.gates.length),.is 8 (fun v=>.int .i64 ((t.basics.length:Int) + (t.gates.length:Int))),.is 9 (fun v=>.int .i64 (M:Int)),.is 10 (fun v=>.int .i64 ((X:Int) / 2 ^ M)),.is 11 (fun v=>.int .i64 (bits .and .i64 ((X:Int) / 2 ^ M) 1)),.is 12 (fun v=>.bool (t.fails (evN s))),.is 13 (fun v=>.bool (t.fails (evN s)))]
  (by kernel_rfl) rfl (by kernel_rfl) ⟨?g0,?g1,?g2,?g3,?g4,?g5,?g6,?g7,?g8,?g9,?g10,?g11,?g12,?g13,trivial⟩ ?post
 case g0 =>
  intro v w1 hx;intro K hK;exact Q8y _ rfl (by go_simp) (HB.ext (hxd.trans hx)) (hK _ _ (Ext.refl _) rfl)
 case g1 =>
  intro v w1 hx;refine ⟨_,fun w=>?_,rfl⟩;go_simp
 case g2 =>
  intro v w1 hx (q0:v 0 = noV t c fv (.slice A2 t.gates.length cap2)) (q1:v 1 = .int .i64 s);intro K hK;go_simp;refine Q0e (HCF.out _ (HN.out.ext (hxW.trans ((Ext.refl W).drew.trans hx)))) ?_;rintro e w2 ⟨rfl,hx2⟩;exact ⟨_,rfl,hK _ _ hx2 rfl⟩
 case g3 =>
  intro v w1 hx;refine ⟨_,fun w=>?_,rfl⟩;go_simp
 case g4 =>
  intro v w1 hx (q3:v 3 = .pointer (some ⟨w.heap.size,14,none⟩));have n14:=(HB.ext (hxd.trans hx)).n14;intro K hK;go_simp;exact hK _ _ (Ext.refl _) rfl
 case g5 =>
  intro v w1 hx;refine ⟨_,fun w=>?_,rfl⟩;go_simp
 case g6 =>
  intro v w1 hx (q5:v 5 = .pointer (some ⟨w.heap.size,15,none⟩));have n15:=(HB.ext (hxd.trans hx)).n15;intro K hK;go_simp;exact hK _ _ (Ext.refl _) rfl
 case g7 =>
  intro v w1 hx (q6:v 6 = .slice A2 t.gates.length cap2);refine ⟨_,fun w=>?_,rfl⟩;go_simp
 case g8 =>
  intro v w1 hx (q4:v 4 = .int .i64 t.basics.length) (q7:v 7 = .int .i64 t.gates.length);refine ⟨_,fun w=>?_,rfl⟩;go_simp
 case g9 =>
  intro v w1 hx (q8:v 8 = .int .i64 ((t.basics.length:Int) + (t.gates.length:Int)));refine ⟨_,fun w=>?_,rfl⟩;go_simp
 case g10 =>
  intro v w1 hx (q2:v 2 = .int .i64 (X:Nat)) (q9:v 9 = .int .i64 (M:Int));refine ⟨_,fun w=>?_,rfl⟩;go_simp
 case g11 =>
  intro v w1 hx (q10:v 10 = .int .i64 ((X:Int) / 2 ^ M));refine ⟨_,fun w=>?_,rfl⟩;go_simp
 case g12 =>
  intro v w1 hx (q11:v 11 = .int .i64 (bits .and .i64 ((X:Int) / 2 ^ M) 1));refine ⟨_,fun w=>?_,rfl⟩;go_simp
 case g13 =>
  intro v w1 hx (q0:v 0 = noV t c fv (.slice A2 t.gates.length cap2)) (q1:v 1 = .int .i64 s) (q2:v 2 = .int .i64 (X:Nat)) (q3:v 3 = .pointer (some ⟨w.heap.size,14,none⟩)) (q4:v 4 = .int .i64 t.basics.length) (q5:v 5 = .pointer (some ⟨w.heap.size,15,none⟩)) (q6:v 6 = .slice A2 t.gates.length cap2) (q7:v 7 = .int .i64 t.gates.length) (q8:v 8 = .int .i64 ((t.basics.length:Int) + (t.gates.length:Int))) (q9:v 9 = .int .i64 (M:Int)) (q10:v 10 = .int .i64 ((X:Int) / 2 ^ M)) (q11:v 11 = .int .i64 (bits .and .i64 ((X:Int) / 2 ^ M) 1)) (q12:v 12 = .bool (t.fails (evN s)));refine ⟨_,fun w=>?_,rfl⟩;go_simp
 case post =>
  intro v w1 hx (q0:v 0 = noV t c fv (.slice A2 t.gates.length cap2)) (q1:v 1 = .int .i64 s) (q2:v 2 = .int .i64 (X:Nat)) (q3:v 3 = .pointer (some ⟨w.heap.size,14,none⟩)) (q4:v 4 = .int .i64 t.basics.length) (q5:v 5 = .pointer (some ⟨w.heap.size,15,none⟩)) (q6:v 6 = .slice A2 t.gates.length cap2) (q7:v 7 = .int .i64 t.gates.length) (q8:v 8 = .int .i64 ((t.basics.length:Int) + (t.gates.length:Int))) (q9:v 9 = .int .i64 (M:Int)) (q10:v 10 = .int .i64 ((X:Int) / 2 ^ M)) (q11:v 11 = .int .i64 (bits .and .i64 ((X:Int) / 2 ^ M) 1)) (q12:v 12 = .bool (t.fails (evN s))) (q13:v 13 = .bool (t.fails (evN s)));simp only [Flow.All,Flow.acts,Act.put];go_simp;go_wp2;go_ret;exact ⟨rfl,hxW.trans ((Ext.refl W).drew.trans hx)⟩
end Go.Proofs
namespace Go.Tw
open Go.RowKit Go.Flow
def Q6j (s:ByteArray):List (ByteArray × Value) → Option Value
 | []=>none
 | p :: l=>if (s == p.1) = true then some p.2 else Q6j s l
def Y6x (s:ByteArray) (v:Value):List (ByteArray × Value) → List (ByteArray × Value)
 | []=>[(s,v)]
 | p :: l=>if (s == p.1) = true then (s,v) :: l else p :: Y6x s v l
def Q3m (w:World) (b:Nat) (l:List (ByteArray × Value)):Prop :=
 ∃ a clock,w.heap[b]? = some (.map a clock) ∧ a.toList.map (fun e=>(e.key,e.val)) = l.map fun p=>(Value.string p.1,p.2)
theorem Q3m.made (w:World):Q3m (w.alloc (.map #[] 0)) w.heap.size []:=⟨#[],0,by show (w.heap.push _)[w.heap.size]? = _; simp,rfl⟩
theorem Q3m.ext {w w':World} {b:Nat} {l:List (ByteArray × Value)} (h:Q3m w b l) (hx:Ext w w'):Q3m w' b l:=by
 obtain ⟨a,c,hb,he⟩:=h;exact ⟨a,c,by rw [Below.block hx b (Array.getElem?_eq_some_iff.1 hb).1]; exact hb,he⟩
theorem Q3m.lt {w:World} {b:Nat} {l:List (ByteArray × Value)} (h:Q3m w b l):b < w.heap.size:=by
 obtain ⟨a,c,hb,_⟩:=h;exact (Array.getElem?_eq_some_iff.1 hb).1
theorem X5o (s:ByteArray):∀ (es:List MapEntry) (l:List (ByteArray × Value)) (i:Nat),es.map (fun e=>(e.key,e.val)) = l.map (fun p=>(Value.string p.1,p.2)) →
    ∃ r,Instr.findNow .string (.string s) es i = some r ∧ r.map (·.2) = Q6j s l
 | [],[],i,_=>⟨none,rfl,rfl⟩
 | [],_ :: _,_,h=>by simp at h
 | _ :: _,[],_,h=>by simp at h
 | e :: es,p :: l,i,h=>by
   simp only [List.map_cons,List.cons.injEq,Prod.mk.injEq] at h;obtain ⟨⟨h1,h2⟩,h3⟩:=h;unfold Instr.findNow Q6j;simp only [h1,Instr.sameNow,h2];cases hs:(s == p.1) with
   | true=>exact ⟨some (i,p.2),by simp,by simp⟩
   | false =>
     obtain ⟨r,hr,hf⟩:=X5o s es l (i + 1) h3;exact ⟨r,by simpa using hr,by simpa using hf⟩
theorem Z1m (s:ByteArray):(s == s) = true:=str_eq rfl
theorem Y1q {a b:ByteArray} (h:(a == b) = true):a = b:=by
 cases hb:decide (a = b) with
 | true=>exact of_decide_eq_true hb
 | false=>rw [Q5k (of_decide_eq_false hb)] at h; cases h
theorem X6p (s:ByteArray):∀ (es:List MapEntry) (l:List (ByteArray × Value)) (i:Nat),es.map (fun e=>(e.key,e.val)) = l.map (fun p=>(Value.string p.1,p.2)) →
    (Instr.findNow .string (.string s) es i = some none ∧ ∀ v,Y6x s v l = l ++ [(s,v)]) ∨
    (∃ j x,Instr.findNow .string (.string s) es i = some (some (i + j,x)) ∧ j < es.length ∧ (∃ e,es[j]? = some e ∧ e.key = .string s) ∧ ∀ v e,e.key = Value.string s → e.val = v →
     (es.set j e).map (fun e=>(e.key,e.val)) = (Y6x s v l).map (fun p=>(Value.string p.1,p.2)))
 | [],[],i,_=>.inl ⟨rfl,fun v=>rfl⟩
 | [],_ :: _,_,h=>by simp at h
 | _ :: _,[],_,h=>by simp at h
 | e :: es,p :: l,i,h=>by
   simp only [List.map_cons,List.cons.injEq,Prod.mk.injEq] at h;obtain ⟨⟨h1,h2⟩,h3⟩:=h;cases hs:(s == p.1) with
   | true =>
     have hsp:=Y1q hs;refine .inr ⟨0,e.val,?_,by simp,⟨e,rfl,by rw [h1,hsp]⟩,fun v e' h4 h5=>?_⟩
     · unfold Instr.findNow
       simp only [h1,Instr.sameNow,hs]; rfl
     · unfold Y6x
       rw [if_pos hs];simp [h4,h5,h3]
   | false =>
     have hn:¬ (s == p.1) = true:=by rw [hs]; simp
     rcases X6p s es l (i + 1) h3 with ⟨ha,hb⟩ | ⟨j,x,ha,hj,⟨e0,he0,hk0⟩,hb⟩
     · refine .inl ⟨?_,fun v=>?_⟩
       · unfold Instr.findNow
         simp only [h1,Instr.sameNow,hs]; exact ha
       · unfold Y6x
         rw [if_neg hn,hb v]; rfl
     · refine .inr ⟨j + 1,x,?_,by simp; omega,⟨e0,by simpa using he0,hk0⟩,fun v e' h4 h5=>?_⟩
       · unfold Instr.findNow
         simp only [h1,Instr.sameNow,hs];rw [show i + (j + 1) = i + 1 + j from by omega]; exact ha
       · unfold Y6x
         rw [if_neg hn];simp only [List.set_cons_succ,List.map_cons,h1,h2];rw [hb v e' h4 h5]
theorem X2h {P:Program} {w:World} {r:Nat} {es:Array MapEntry} {clock:Nat} (hb:w.heap[r]? = some (.map es clock)):(getObj r).run P w = .ok (.map es clock) w:=by
 simp [getObj,Sem.run,hb]
theorem X6j {P:Program} {w:World} {r:Nat} {es:Array MapEntry} {clock:Nat} (o:Obj) (hb:w.heap[r]? = some (.map es clock)):(setObj r o).run P w = .ok () { w with heap:=w.heap.setIfInBounds r o }:=by
 simp [setObj,Sem.run,hb]
theorem X2o {P:Program} {w:World} {k:TypeId} (hk:P.underlying k = some .string) (e:Bool) (s:ByteArray) (n:Nat):(Instr.checkKey e (n + 1) k (.string s)).run P w = .ok () w:=by
 unfold Instr.checkKey;simp only [Sem.run_bind,run_underlying hk,Result.andThen_ok,Sem.run_pure]
theorem Q7s {P:Program} {w:World} {b:Nat} {l:List (ByteArray × Value)} (h:Q3m w b l) {t k e:TypeId} (ht:P.underlying t = some (.map k e)) (hk:P.underlying k = some .string) {z:Value} (hz:(zeroValue e).run P w = .ok z w) (s:ByteArray) (ok:Bool) :
    (Instr.lookup t (.map (some b)) (.string s) ok).run P w = .ok (if ok then .tuple #[(Q6j s l).getD z,.bool (Q6j s l).isSome] else (Q6j s l).getD z) w:=by
 obtain ⟨a,clock,hb,he⟩:=h;obtain ⟨r,hr,hf⟩:=X5o s a.toList l 0 he;unfold Instr.lookup;simp only [Sem.run_bind,run_underlying ht,Result.andThen_ok,X2h hb,Sem.run_pure,X2o hk _ s 9999,Instr.findKey,run_underlying hk,hr];rw [← hf];cases r with
 | none=>simp only [Sem.run_bind,hz,Result.andThen_ok,Sem.run_pure]; cases ok <;> rfl
 | some p=>cases ok <;> rfl
theorem Q8k {P:Program} {w:World} {b:Nat} {l:List (ByteArray × Value)} (h:Q3m w b l) {t k e:TypeId} (ht:P.underlying t = some (.map k e)) (hk:P.underlying k = some .string) (s:ByteArray) (v:Value) :
    ∃ w',(Instr.mapUpdate t (.map (some b)) (.string s) v).run P w = .ok () w' ∧ Q3m w' b (Y6x s v l) ∧ (∀ n,n ≤ b → Below n w w') ∧ w.grownBy w' (some b):=by
 obtain ⟨a,clock,hb,he⟩:=h;have hlt:=(Array.getElem?_eq_some_iff.1 hb).1;have hbel:∀ o n,n ≤ b → Below n w { w with heap:=w.heap.setIfInBounds b o }:=fun o n hn =>
  ⟨rfl,rfl,rfl,by simp,fun k hk'=>by show (w.heap.setIfInBounds b o)[k]? = _; rw [Array.getElem?_setIfInBounds_ne (by omega)]⟩
 have hgr:∀ o,w.grownBy { w with heap:=w.heap.setIfInBounds b o } (some b):=fun o =>
  ⟨rfl,rfl,rfl,by simp,fun k _ hk'=>by show (w.heap.setIfInBounds b o)[k]? = _; rw [Array.getElem?_setIfInBounds_ne (fun e=>hk' (by rw [e]))]⟩
 rcases X6p s a.toList l 0 he with ⟨hr,hp⟩ | ⟨j,x,hr,hj,⟨e0,he0,hk0⟩,hp⟩
 · refine ⟨{ w with heap:=w.heap.setIfInBounds b (.map (a.push ⟨.string s,v,clock⟩) (clock + 1)) },?_,⟨a.push ⟨.string s,v,clock⟩,clock + 1,?_,?_⟩,hbel _,hgr _⟩
   · unfold Instr.mapUpdate
     simp only [Sem.run_bind,run_underlying ht,Result.andThen_ok,X2h hb,Sem.run_pure,X2o hk _ s 9999,Instr.findKey,run_underlying hk,hr];exact X6j _ hb
   · show (w.heap.setIfInBounds b _)[b]? = _; simp [hlt]
   · rw [hp v]; simp [he]
 · rw [Nat.zero_add] at hr
   have he0':a[j]? = some e0:=by simpa using he0
   refine ⟨{ w with heap:=w.heap.setIfInBounds b (.map (a.modify j fun e=>{ e with key:=.string s,val:=v }) clock) },?_,⟨a.modify j fun e=>{ e with key:=.string s,val:=v },clock,?_,?_⟩,hbel _,hgr _⟩
   · unfold Instr.mapUpdate
     simp only [Sem.run_bind,run_underlying ht,Result.andThen_ok,X2h hb,Sem.run_pure,X2o hk _ s 9999,Instr.findKey,run_underlying hk,hr,he0',Option.map_some,Option.getD_some,hk0];have hkt:(Instr.keyThatStays (.string s) (.string s)).run P w = .ok (.string s) w:=by
      unfold Instr.keyThatStays;rw [if_pos (by unfold Instr.sameBits; exact Z1m s)]; rfl
     simp only [hkt,Result.andThen_ok];exact X6j _ hb
   · show (w.heap.setIfInBounds b _)[b]? = _; simp [hlt]
   · have:=hp v { e0 with key:=.string s,val:=v } rfl rfl
     rw [← this]
     congr 1
     apply List.ext_getElem?
     intro i;rw [Array.getElem?_toList,Array.getElem?_modify,List.getElem?_set]
     by_cases hij:j = i
     · subst hij
       have hja:j < a.size:=by simpa using hj
       simp only [he0',Option.map_some,if_true,Array.length_toList,hja]
     · simp [hij]
end Go.Tw
namespace Go.Proofs
open Go.RowKit Go.Tw Go.Flow
def kv (f:Nat):Value:=.agg #[.func (.func f) #[] #[]]
def Q4y:List (ByteArray × Value):=[(Q8z,kv 158),(sOr,kv 159),(Q5c,kv 160)]
theorem X8u:Tryz.prog.underlying 177 = some (.map 9 184):=by kernel_rfl
theorem Z3m:Tryz.prog.underlying 9 = some .string:=by kernel_rfl
theorem Z5l (w:World):(zeroValue 184).run Tryz.prog w = .ok (.agg #[.nilFunc]) w:=by kernel_rfl
set_option maxRecDepth 1000000 in
theorem Y1b (w:World) :
    Calls Tryz.prog 125 #[] w fun e w'=>∃ b,e = .returned (.map (some b)) ∧ Q3m w' b Q4y ∧ Ext w w':=by
 have hmm:=@run_makeMap Tryz.prog;obtain ⟨W1,e1,m1,b1,_⟩:=Q8k (P:=Tryz.prog) (Q3m.made w) X8u Z3m Q8z (kv 158);obtain ⟨W2,e2,m2,b2,_⟩:=Q8k (P:=Tryz.prog) m1 X8u Z3m sOr (kv 159);obtain ⟨W3,e3,m3,b3,_⟩:=Q8k (P:=Tryz.prog) m2 X8u Z3m Q5c (kv 160);have hx:Ext w W3:=Below.trans (Below.trans (Below.trans (Ext.box w (.map #[] 0)) (b1 w.heap.size (Nat.le_refl _))) (b2 w.heap.size (Nat.le_refl _))) (b3 w.heap.size (Nat.le_refl _));have HM:Hid (Q3m W3 w.heap.size Q4y):=m3;clear m1 m2 m3 b1 b2 b3;unfold kv Q8z at e1;unfold kv sOr at e2;unfold kv Q5c at e3;go_enter Tryz.func125,Tryz.ntmps125;go_wp2;go_ret;exact ⟨_,rfl,HM.out,hx⟩
theorem Y9d (w:World) (k v:Value) (n:Int) (l:List Int) (hv:Q0f w v l) :
    Calls Tryz.prog 158 #[.agg #[k,.int .i64 n,v]] w fun e w'=>e = .returned (.int .i64 l.length) ∧ Ext w w':=by
 obtain ⟨A,cap,rfl,hl,hcap,hc⟩:=hv.opened;clear hv hc;go_enter Tryz.func158,Tryz.ntmps158;go_wp2;go_ret;exact ⟨rfl,Ext.box _ _⟩
theorem Y9x (w:World) (k v:Value) (n:Int) :
    Calls Tryz.prog 159 #[.agg #[k,.int .i64 n,v]] w fun e w'=>e = .returned (.int .i64 1) ∧ Ext w w':=by
 go_enter Tryz.func159,Tryz.ntmps159;go_wp2;go_ret;exact ⟨rfl,Ext.box _ _⟩
theorem Y7i (w:World) (k v:Value) (n:Int) :
    Calls Tryz.prog 160 #[.agg #[k,.int .i64 n,v]] w fun e w'=>e = .returned (.int .i64 n) ∧ Ext w w':=by
 go_enter Tryz.func160,Tryz.ntmps160;go_wp2;go_ret;exact ⟨rfl,Ext.box _ _⟩
end Go.Proofs
namespace Go.Tw
open Go.RowKit Go.Flow
def idV (x:Value):Value:=x
def Reads (w:World) (vs:List Value) (ll:List (List Int)):Prop:=vs.length = ll.length ∧ ∀ i,i < ll.length → Q0f w (vs.getD i undef) (ll.getD i [])
theorem Reads.ext {w w':World} {vs:List Value} {ll:List (List Int)} (h:Reads w vs ll) (hx:Ext w w'):Reads w' vs ll:=⟨h.1,fun i hi=>(h.2 i hi).ext hx⟩
theorem Q0f.below {w w':World} {B:Nat} {v:Value} {l:List Int} (h:Q0f w v l) (hb:Below B w w') (hlow:∀ b o c,v = .slice (some ⟨b,o,none⟩) l.length c → l ≠ [] → b < B):Q0f w' v l:=by
 obtain ⟨c,⟨A,cap,hv,hn,hcap,hc⟩,h2⟩:=h;refine ⟨c,⟨A,cap,hv,hn,hcap,fun j hj=>?_⟩,h2⟩;obtain ⟨b,off,hA,h⟩:=hc j hj;refine ⟨b,off,hA,?_⟩;have:b < B:=hlow b off cap (by rw [hv,hA]) (fun e=>by rw [e] at hj; simp at hj)
 exact (hb.cell (p:=⟨b,off + j,none⟩) this).trans h
theorem Reads.snoc {w:World} {vs:List Value} {ll:List (List Int)} {v:Value} {l:List Int} (h:Reads w vs ll) (hv:Q0f w v l):Reads w (vs ++ [v]) (ll ++ [l]):=by
 refine ⟨by simp [h.1],fun i hi=>?_⟩
 rw [List.length_append,List.length_singleton] at hi
 by_cases hlt:i < ll.length
 · have e1:(vs ++ [v]).getD i undef = vs.getD i undef:=by simp [List.getElem?_append_left (show i < vs.length by rw [h.1]; exact hlt)]
   have e2:(ll ++ [l]).getD i [] = ll.getD i []:=by simp [List.getElem?_append_left hlt]
   rw [e1,e2]; exact h.2 i hlt
 · have e:i = ll.length:=by omega
   have e1:(vs ++ [v]).getD i undef = v:=by rw [e,← h.1]; simp
   have e2:(ll ++ [l]).getD i [] = l:=by rw [e]; simp
   rw [e1,e2]; exact hv
theorem Q0q.Z5y {w:World} {base:Nat} {e:TypeId} {v:Value} {vs:List Value} {ll:List (List Int)} (h:Q0q w base e idV v vs) (hr:Reads w vs ll) (hl:ll.length ≤ 17592186043904):Q1w w v ll:=by
 refine ⟨fun k=>vs.getD k undef,?_,fun j hj=>?_⟩
 · rw [← hr.1]
   exact h.row (by rw [hr.1]; exact hl) _ (fun k hk=>by simp [hk,idV])
 · have:=hr.2 j hj
   rw [Q3u _ hj] at this
   simpa using this
theorem Q1w.opened {w:World} {v:Value} {ll:List (List Int)} (h:Q1w w v ll) :
    ∃ A cap,v = .slice A ll.length cap ∧ ll.length ≤ 17592186043904 ∧ ll.length ≤ cap ∧ ∀ k,k < ll.length → ∃ b off m,A = some ⟨b,off,none⟩ ∧ b < w.heap.size ∧ w.cell? ⟨b,off + k,none⟩ = some m ∧ Q0f w m (ll.getD k []):=by
 obtain ⟨c,⟨A,cap,hv,hn,hcap,hc⟩,h2⟩:=h;refine ⟨A,cap,hv,hn,hcap,fun k hk=>?_⟩;obtain ⟨b,off,hA,h⟩:=hc k (by omega)
 refine ⟨b,off,c k,hA,World.block_lt_of_cell? w _ h,h,?_⟩;have:=h2 k hk;simp only [Nat.mul_one,Nat.add_zero] at this;rw [Q3u _ hk]; exact this
theorem Q0q.cells {α:Type} {w:World} {base:Nat} {e:TypeId} {enc:α → Value} {v:Value} {xs:List α} (h:Q0q w base e enc v xs) :
    ∃ A c,v = .slice A xs.length c ∧ xs.length ≤ c ∧ (∀ j (hj:j < xs.length),∃ g,A = some ⟨g,0,none⟩ ∧ base ≤ g ∧ g < w.heap.size ∧ w.cell? ⟨g,0 + j,none⟩ = some (enc xs[j])):=by
 obtain ⟨_,h2⟩:=h
 rcases h2 with ⟨rfl,h0⟩ | ⟨g,cap,cur,rfl,hb,hg,hcap,_,_,htake⟩
 · exact ⟨none,0,by rw [h0],by omega,fun j hj=>by omega⟩
 · refine ⟨some ⟨g,0,none⟩,cap,rfl,hcap,fun j hj=>⟨g,rfl,hb,(Array.getElem?_eq_some_iff.1 hg).1,?_⟩⟩
   rw [Nat.zero_add];have h1:=congrArg (fun l=>l[j]?) htake;simp only [Nat.mul_one,List.getElem?_take,hj,if_true,List.getElem?_map,List.getElem?_eq_getElem hj,Option.map_some] at h1;simp only [World.cell?,hg]
   simpa using h1
theorem Q0q.cells2 {α:Type} {w:World} {base:Nat} {e:TypeId} {enc:α → Value} {v:Value} {xs:List α} (h:Q0q w base e enc v xs) :
    (v = .slice none 0 0 ∧ xs = []) ∨ ∃ g c,v = .slice (some ⟨g,0,none⟩) xs.length c ∧ xs.length ≤ c ∧ base ≤ g ∧ g < w.heap.size ∧ ∀ j (hj:j < xs.length),w.cell? ⟨g,0 + j,none⟩ = some (enc xs[j]):=by
 obtain ⟨_,h2⟩:=h
 rcases h2 with ⟨rfl,h0⟩ | ⟨g,cap,cur,rfl,hb,hg,hcap,_,_,htake⟩
 · exact .inl ⟨rfl,List.length_eq_zero_iff.1 h0⟩
 · refine .inr ⟨g,cap,rfl,hcap,hb,(Array.getElem?_eq_some_iff.1 hg).1,fun j hj=>?_⟩
   rw [Nat.zero_add];have h1:=congrArg (fun l=>l[j]?) htake;simp only [Nat.mul_one,List.getElem?_take,hj,if_true,List.getElem?_map,List.getElem?_eq_getElem hj,Option.map_some] at h1;simp only [World.cell?,hg]
   simpa using h1
theorem Q0q.weaken {α:Type} {w:World} {base base':Nat} {e:TypeId} {enc:α → Value} {v:Value} {xs:List α} (h:Q0q w base e enc v xs) (hb:base' ≤ base):Q0q w base' e enc v xs:=by
 obtain ⟨h1,h2⟩:=h;refine ⟨h1,?_⟩
 rcases h2 with h2 | ⟨g,cap,cur,hv,hbg,r⟩
 · exact .inl h2
 · exact .inr ⟨g,cap,cur,hv,Nat.le_trans hb hbg,r⟩
theorem Q0f.one {w:World} {v:Value} {l:List Int} (h:Q0f w v l):(idV v).oneCell' = true:=by
 obtain ⟨A,cap,rfl,_⟩:=h.opened;rfl
theorem Q0f.cells {w:World} {v:Value} {l:List Int} (h:Q0f w v l):v.cells = #[v]:=by
 obtain ⟨A,cap,rfl,_⟩:=h.opened;rfl
theorem Reads.one {w:World} {vs:List Value} {ll:List (List Int)} (h:Reads w vs ll):∀ y ∈ vs,(idV y).oneCell' = true:=by
 intro y hy;obtain ⟨i,hi,rfl⟩:=List.getElem_of_mem hy;have:=h.2 i (by rw [← h.1]; exact hi)
 rw [Q3u _ hi] at this;exact this.one
def Q1o (w:World) (v:Value) (B:Nat) (e:TypeId):Prop:=∃ g,v = .slice (some ⟨g,0,none⟩) 0 0 ∧ B ≤ g ∧ w.heap[g]? = some (.cells #[] e (0,0))
theorem Q1o.ext {w w':World} {v:Value} {B:Nat} {e:TypeId} (h:Q1o w v B e) (hx:Ext w w'):Q1o w' v B e :=
 let ⟨g,h1,h2,h3⟩:=h; ⟨g,h1,h2,(Below.block hx g (Array.getElem?_eq_some_iff.1 h3).1).trans h3⟩
theorem Q1o.made (w:World) (B:Nat) (e:TypeId) (h:B ≤ w.heap.size):Q1o (w.alloc (.cells #[] e)) (.slice (some ⟨w.heap.size,0,none⟩) 0 0) B e:=⟨_,rfl,h,heap_alloc_new w _⟩
def Q6v (w:World) (v:Value) (x:Value):Prop:=∃ g,v = .slice (some ⟨g,0,none⟩) 1 1 ∧ w.cell? ⟨g,0,none⟩ = some x
theorem Q6v.ext {w w':World} {v x:Value} (h:Q6v w v x) (hx:Ext w w'):Q6v w' v x:=let ⟨g,h1,h2⟩:=h; ⟨g,h1,hx.cell h2⟩
theorem Q6v.made (w:World) (x:Value) (e:TypeId):Q6v (w.alloc (.cells #[x] e)) (.slice (some ⟨w.heap.size,0,none⟩) 1 1) x:=⟨_,rfl,Q0z _ _ _ _⟩
theorem Q6v.src {w:World} {v x:Value} (h:Q6v w v x):Src w idV v [x]:=by
 obtain ⟨g,rfl,hc⟩:=h;refine ⟨_,_,rfl,fun j hj=>⟨g,0,rfl,?_⟩⟩;obtain rfl:j = 0:=by rw [List.length_singleton] at hj; omega
 exact hc
theorem Q0f.made (w:World) (xs:List Int) (e:TypeId) (h:xs.length ≤ 17592186043904):Q0f (w.alloc (.cells (xs.map (Value.int .i64)).toArray e)) (.slice (some ⟨w.heap.size,0,none⟩) xs.length xs.length) xs:=by
 refine ⟨fun k=>((xs.map (Value.int .i64))[k]?).getD undef,⟨_,_,rfl,h,Nat.le_refl _,fun j hj=>⟨_,0,rfl,?_⟩⟩,fun j hj=>?_⟩
 · have hj':j < xs.length:=by omega
   rw [Nat.zero_add,Q0z];simp [hj']
 · simp [hj]
end Go.Tw
namespace Go.Proofs
open Go.RowKit Go.Tw Go.Flow
theorem Tryz.Z5k:(Tryz.prog.info? 39).map (fun i=>(i.zero,i.size,i.bytes)) = some (some (.slice none 0 0),1,24):=by kernel_rfl
def X2z (t:Tree) (p:Bool) (n:Nat):List (List Int):=(List.range n).foldl (fun out s=>if t.Q6z (bitsOf s) p then Q5q (bitsOf s) out else out) []
theorem X4i (t:Tree) (p:Bool) (n:Nat):X2z t p (n + 1) = if t.Q6z (bitsOf n) p then Q5q (bitsOf n) (X2z t p n) else X2z t p n:=by
 unfold X2z; rw [List.range_succ,List.foldl_append]; rfl
theorem X6s (l:List Int) (out:List (List Int)):∀ n,Q5m l out n ≤ n
 | 0=>Nat.le_refl _
 | n + 1=>by
   unfold Q5m
   split
   · exact Nat.le_trans (X6s l out n) (by omega)
   · exact Nat.le_refl _
end Go.Proofs
namespace Go.Proofs
open Go.RowKit Go.Tw Go.Flow
def Q6h (t:Tree) (n:Nat):List Int:=((List.range n).map Int.ofNat).filter fun x=>t.fails (evL [x])
theorem X8b (t:Tree) (n:Nat):Q6h t (n + 1) = Q6h t n ++ if t.fails (evL [(n:Int)]) then [(n:Int)] else []:=by
 unfold Q6h;rw [List.range_succ,List.map_append,List.filter_append];cases h:t.fails (evL [(n:Int)]) <;> simp [h]
theorem X3h (t:Tree) (n:Nat):(Q6h t n).length ≤ n:=by
 unfold Q6h; exact Nat.le_trans (List.length_filter_le _ _) (by simp)
end Go.Proofs
