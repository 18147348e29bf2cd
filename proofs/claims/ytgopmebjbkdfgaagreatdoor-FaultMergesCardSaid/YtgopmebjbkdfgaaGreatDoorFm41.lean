/- Contract of the law's tree: true when both say the same. What is read of a result whatever becomes of the blocks of one type; what the law FaultChanges asks of the three trees. The part of a function's body from a region on: a great walk is cut into theorems there. Merged trees: what Merge comes to; the slices of triples that it makes, and what they read as. A slice of the call's own, or one that is full: an append of one element makes it one of the call's own behind a mark, and leaves all blocks ahead of the mark alone. -/
import Derived.Test.YtgopmebjbkdfgaaGreatDoorFm36
import Derived.Test.YtgopmebjbkdfgaaGreatDoorFm40
import Derived.Test.YtgopmebjbkdfgaaGreatDoorFm27
import Derived.Test.YtgopmebjbkdfgaaGreatDoorFm38
import Derived.Test.YtgopmebjbkdfgaaGreatDoorFm01
import Derived.Test.YtgopmebjbkdfgaaGreatDoorFm39
import Derived.ArgAppend
set_option maxRecDepth 1000000
set_option maxHeartbeats 64000000
set_option linter.unusedVariables false
set_option linter.unusedSimpArgs false
set_option linter.constructorNameAsVariable false
namespace Go.Proofs
open Go.RowKit Go.Tw Go.Flow
theorem Z3v (w:World) (u v:Value) (T:Tree) (hu:IsTree w u T) (hv:IsTree w v T) (hf:Few T) :
    Calls Tryz.prog 14 #[u,.int .i64 0,.int .i64 0,v] w fun e w'=>e = .returned (.bool true) /\ Ext w w':=by
 obtain ⟨a1,a2,a3,rfl,hu0⟩:=hu;obtain ⟨A,capa,rfl,_,_,_⟩:=hu0.basics.opened;obtain ⟨B,capb,rfl,_,_,_⟩:=hu0.causes.opened;obtain ⟨G,capg,rfl,_,_,_⟩:=hu0.gates.opened;obtain ⟨c1,c2,c3,rfl,hv0⟩:=hv;obtain ⟨C,capc,rfl,_,_,_⟩:=hv0.basics.opened;obtain ⟨D,capd,rfl,_,_,_⟩:=hv0.causes.opened;obtain ⟨E,cape,rfl,_,_,_⟩:=hv0.gates.opened;have HU0:=Lib.hid hu0;have HV0:=Lib.hid hv0;have HF:=Lib.hid hf;clear hu0 hv0 hf;go_enter Tryz.func14,Tryz.ntmps14;go_upto_region 3 with fail;change Code.wp _ _ _ _ ((w.alloc (.cells #[.slice A T.basics.length capa,.slice B T.causes.length capb,.slice G T.gates.length capg] 33)).alloc (.cells #[.slice C T.basics.length capc,.slice D T.causes.length capd,.slice E T.gates.length cape] 26));obtain ⟨W,hWW,k0,k1,HXW,eW⟩:=Q5n w 33 #[.slice A T.basics.length capa,.slice B T.causes.length capb,.slice G T.gates.length capg] 26 #[.slice C T.basics.length capc,.slice D T.causes.length capd,.slice E T.gates.length cape];rw [hWW];clear hWW;have HU:=Lib.hid (HU0.out.ext HXW.out);have HV:=Lib.hid (HV0.out.ext HXW.out);have K0:=Lib.hid k0;have K1:=Lib.hid k1;have hdr:=(Ext.refl W).drew;clear k0 k1;refine Flow.Q2m [.p,.p,.p,.p,.w,.w,.w,.w,.p,.p] [0,1,2,3,4,5,6,7,8,9] [[],[],[0,1],[2],[3],[3,4],[3],[3,5,6],[3,7],[0,1,2,3,4,5,6,7,8]]
  [.c 0 (.int .i64 0),.c 1 (.int .i64 0),.c 2 (.bool true),.c 3 (.bool true),.c 4 (.agg #[.slice A T.basics.length capa,.slice B T.causes.length capb,.slice G T.gates.length capg]),⟨fun v wz=>IsTree wz (v 5) T,fun _ _ _ hx h=>h.ext hx⟩,.c 6 (.agg #[.slice C T.basics.length capc,.slice D T.causes.length capd,.slice E T.gates.length cape]),.c 7 (.bool true),.c 8 (.bool true),.c 9 (.bool true)]
  (by kernel_rfl) rfl (by kernel_rfl) ⟨?g0,?g1,?g2,?g3,?g4,?g5,?g6,?g7,?g8,?g9,trivial⟩ ?post
 case g0 | g1=>
  intro v w1 hx;intro bb hbb;subst hbb;refine ⟨_,fun w=>?_,rfl⟩;go_simp
 case g2 | g3 | g8=>
  intro v w1 hx;(repeat intro (zq:v _ = _));intro bb hbb;subst hbb;refine ⟨_,fun w=>?_,rfl⟩;go_simp
 case g4=>
  intro v w1 hx;(repeat intro (zq:v _ = _));intro bb hbb;refine Flow.Q0k (d:=15) rfl rfl (by rw [hbb]; simp only [size_put]; exact (by decide:15 < 21)) (by rw [hbb]; dsimp only; (try simp (discharger:=decide) only [eval_put_ne]); rw [Q0a (by simp only [size_put]; exact (by decide:15 < 21))]; assumption) ?_
  intro K2 hK2;have o1:bb.eval (.tmp 4) = .pointer (some ⟨w.heap.size,0,none⟩):=by rw [hbb]; dsimp only; (try simp (discharger:=decide) only [eval_put_ne]); rfl
  exact Q0h (.tmp 4) _ rfl Tryz.Q2h Tryz.Q0u o1 (K0.out.ext (hdr.trans hx)) rfl (hK2 _ _ (Ext.refl _) rfl)
 case g5=>
  intro v w1 hx;(repeat intro (zq:v _ = _));intro bb hbb;refine Flow.Q0k (d:=15) rfl rfl (by rw [hbb]; simp only [size_put]; exact (by decide:15 < 21)) (by rw [hbb]; dsimp only; (try simp (discharger:=decide) only [eval_put_ne]); rw [Q0a (by simp only [size_put]; exact (by decide:15 < 21))]; assumption) ?_
  subst hbb;intro K hK;go_simp;refine Q0c (Y6v w1 _ T ⟨_,_,_,rfl,HU.out.ext (hdr.trans hx)⟩ HF.out.b HF.out.c HF.out.g) ?_;rintro e w2 ⟨x,rfl,h,hx2⟩;exact ⟨_,rfl,hK _ _ hx2 h⟩
 case g6=>
  intro v w1 hx;(repeat intro (zq:v _ = _));intro bb hbb;refine Flow.Q0k (d:=15) rfl rfl (by rw [hbb]; simp only [size_put]; exact (by decide:15 < 21)) (by rw [hbb]; dsimp only; (try simp (discharger:=decide) only [eval_put_ne]); rw [Q0a (by simp only [size_put]; exact (by decide:15 < 21))]; assumption) ?_
  intro K2 hK2;have o1:bb.eval (.tmp 7) = .pointer (some ⟨w.heap.size + 1,0,none⟩):=by rw [hbb]; dsimp only; (try simp (discharger:=decide) only [eval_put_ne]); rfl
  exact Q0h (.tmp 7) _ rfl Tryz.Q2k Tryz.Q0x o1 (K1.out.ext (hdr.trans hx)) rfl (hK2 _ _ (Ext.refl _) rfl)
 case g7=>
  intro v w1 hx (q3:v 3 = _) (q5:IsTree w1 (v 5) T) (q6:v 6 = _);intro bb hbb;refine Flow.Q0k (d:=15) rfl rfl (by rw [hbb]; simp only [size_put]; exact (by decide:15 < 21)) (by rw [hbb]; dsimp only; (try simp (discharger:=decide) only [eval_put_ne]); rw [Q0a (by simp only [size_put]; exact (by decide:15 < 21))]; exact q3) ?_
  subst hbb;intro K hK;go_simp;refine Q0c (Z2n w1 _ _ T q5 ⟨_,_,_,rfl,HV.out.ext (hdr.trans hx)⟩) ?_;rintro e w2 ⟨rfl,hx2⟩;exact ⟨_,rfl,hK _ _ hx2 rfl⟩
 case g9=>
  intro v w1 hx (q0:v 0 = _) (q1:v 1 = _) (q2:v 2 = _) (q3:v 3 = _) (q4:v 4 = _) _ (q6:v 6 = _) (q7:v 7 = _) (q8:v 8 = _);intro bb hbb;subst hbb;refine ⟨_,fun w=>?_,rfl⟩;go_simp
 case post =>
  intro v w1 hx;(iterate 5 intro (zq:v _ = _));intro (q5:IsTree w1 (v 5) T);(iterate 4 intro (zq:v _ = _));simp only [Flow.All,Flow.acts,Act.put];go_simp;go_wp2;go_ret;exact ⟨rfl,HXW.out.trans (hdr.trans hx)⟩
theorem Z3a (w:World) (u v:Value) (T:Tree) (bad:Int) (hb:bad ≠ 0) (hu:IsTree w u ⟨[],[],[]⟩) (hv:IsTree w v T) :
    Calls Tryz.prog 14 #[u,.int .i64 bad,.int .i64 bad,v] w fun e w'=>e = .returned (.bool true) /\ Ext w w':=by
 obtain ⟨a1,a2,a3,rfl,hu0⟩:=hu;obtain ⟨A,capa,rfl,_,_,_⟩:=hu0.basics.opened;obtain ⟨B,capb,rfl,_,_,_⟩:=hu0.causes.opened;obtain ⟨G,capg,rfl,_,_,_⟩:=hu0.gates.opened;obtain ⟨c1,c2,c3,rfl,hv0⟩:=hv;obtain ⟨C,capc,rfl,_,_,_⟩:=hv0.basics.opened;obtain ⟨D,capd,rfl,_,_,_⟩:=hv0.causes.opened;obtain ⟨E,cape,rfl,_,_,_⟩:=hv0.gates.opened;have HU0:=Lib.hid hu0;have hbne:(bad != 0) = true:=by simp [hb]
 clear hu0 hv0 hb;go_enter Tryz.func14,Tryz.ntmps14;go_upto_region 1 with fail;change Code.wp _ _ _ _ ((w.alloc (.cells #[.slice A 0 capa,.slice B 0 capb,.slice G 0 capg] 33)).alloc (.cells #[.slice C T.basics.length capc,.slice D T.causes.length capd,.slice E T.gates.length cape] 26));obtain ⟨W,hWW,k0,k1,HXW,eW⟩:=Q5n w 33 #[.slice A 0 capa,.slice B 0 capb,.slice G 0 capg] 26 #[.slice C T.basics.length capc,.slice D T.causes.length capd,.slice E T.gates.length cape];rw [hWW];clear hWW;have HU:=Lib.hid (HU0.out.ext HXW.out);have K0:=Lib.hid k0;have K1:=Lib.hid k1;clear k0 k1;go_upto_region 3 with (refine Q0d rfl _ _ 26 rfl Tryz.Q0x rfl rfl K1.out rfl rfl ?_ ?_; (focus (intro u hu; simp only [List.mem_cons,List.not_mem_nil,or_false] at hu; rcases hu with rfl | rfl | rfl <;> rfl)); intro w8 hb8 hl8 ho8; refine halted ?_)
 have KU:=Lib.hid (K0.out.only (by omega) ho8)
 have KV:=Lib.hid hb8;have HX8:Hid (Ext w w8):=Lib.hid (Below.trans HXW.out (hl8 _ (by omega)))
 have HU8:Hid (IsTree w8 (.agg #[.slice A 0 capa,.slice B 0 capb,.slice G 0 capg]) ⟨[],[],[]⟩):=Lib.hid (⟨_,_,_,rfl,HU0.out.ext HX8.out⟩);clear hb8 hl8 ho8 K0 K1 HU;have hdr:=(Ext.refl w8).drew;unfold Q3g;go_upto_region 3 with fail;refine Flow.Q2m [.p,.p,.p,.p,.w,.w,.w,.w,.p,.p] [0,1,2,3,4,5,6,7,8,9] [[],[],[0,1],[2],[3],[3,4],[3],[3,5,6],[3,7],[0,1,2,3,4,5,6,7,8]]
  [.c 0 (.int .i64 bad),.c 1 (.int .i64 bad),.c 2 (.bool true),.c 3 (.bool true),.c 4 (.agg #[.slice A 0 capa,.slice B 0 capb,.slice G 0 capg]),⟨fun v wz=>IsTree wz (v 5) ⟨[],[],[]⟩,fun _ _ _ hx h=>h.ext hx⟩,.c 6 (.agg #[.slice none 0 0,.slice none 0 0,.slice none 0 0]),.c 7 (.bool true),.c 8 (.bool true),.c 9 (.bool true)]
  (by kernel_rfl) rfl (by kernel_rfl) ⟨?g0,?g1,?g2,?g3,?g4,?g5,?g6,?g7,?g8,?g9,trivial⟩ ?post
 case g0 | g1=>
  intro v w1 hx;intro bb hbb;subst hbb;refine ⟨_,fun w=>?_,rfl⟩;go_simp
 case g2 | g3 | g8=>
  intro v w1 hx;(repeat intro (zq:v _ = _));intro bb hbb;subst hbb;refine ⟨_,fun w=>?_,rfl⟩;go_simp
 case g4=>
  intro v w1 hx;(repeat intro (zq:v _ = _));intro bb hbb;refine Flow.Q0k (d:=15) rfl rfl (by rw [hbb]; simp only [size_put]; exact (by decide:15 < 21)) (by rw [hbb]; dsimp only; (try simp (discharger:=decide) only [eval_put_ne]); rw [Q0a (by simp only [size_put]; exact (by decide:15 < 21))]; assumption) ?_
  intro K2 hK2;have o1:bb.eval (.tmp 4) = .pointer (some ⟨w.heap.size,0,none⟩):=by rw [hbb]; dsimp only; (try simp (discharger:=decide) only [eval_put_ne]); rfl
  exact Q0h (.tmp 4) _ rfl Tryz.Q2h Tryz.Q0u o1 (KU.out.ext (hdr.trans hx)) rfl (hK2 _ _ (Ext.refl _) rfl)
 case g5=>
  intro v w1 hx;(repeat intro (zq:v _ = _));intro bb hbb;refine Flow.Q0k (d:=15) rfl rfl (by rw [hbb]; simp only [size_put]; exact (by decide:15 < 21)) (by rw [hbb]; dsimp only; (try simp (discharger:=decide) only [eval_put_ne]); rw [Q0a (by simp only [size_put]; exact (by decide:15 < 21))]; assumption) ?_
  subst hbb;intro K hK;go_simp;refine Q0c (Y6v w1 _ ⟨[],[],[]⟩ (HU8.out.ext (hdr.trans hx)) (Nat.zero_le _) (Nat.zero_le _) (Nat.zero_le _)) ?_;rintro e w2 ⟨x,rfl,h,hx2⟩;exact ⟨_,rfl,hK _ _ hx2 h⟩
 case g6=>
  intro v w1 hx;(repeat intro (zq:v _ = _));intro bb hbb;refine Flow.Q0k (d:=15) rfl rfl (by rw [hbb]; simp only [size_put]; exact (by decide:15 < 21)) (by rw [hbb]; dsimp only; (try simp (discharger:=decide) only [eval_put_ne]); rw [Q0a (by simp only [size_put]; exact (by decide:15 < 21))]; assumption) ?_
  intro K2 hK2;have o1:bb.eval (.tmp 7) = .pointer (some ⟨w.heap.size + 1,0,none⟩):=by rw [hbb]; dsimp only; (try simp (discharger:=decide) only [eval_put_ne]); rfl
  exact Q0h (.tmp 7) _ rfl Tryz.Q2k Tryz.Q0x o1 (KV.out.ext (hdr.trans hx)) rfl (hK2 _ _ (Ext.refl _) rfl)
 case g7=>
  intro v w1 hx (q3:v 3 = _) (q5:IsTree w1 (v 5) ⟨[],[],[]⟩) (q6:v 6 = _);intro bb hbb;refine Flow.Q0k (d:=15) rfl rfl (by rw [hbb]; simp only [size_put]; exact (by decide:15 < 21)) (by rw [hbb]; dsimp only; (try simp (discharger:=decide) only [eval_put_ne]); rw [Q0a (by simp only [size_put]; exact (by decide:15 < 21))]; exact q3) ?_
  subst hbb;intro K hK;go_simp;refine Q0c (Z2n w1 _ _ ⟨[],[],[]⟩ q5 (Q7g _)) ?_;rintro e w2 ⟨rfl,hx2⟩;exact ⟨_,rfl,hK _ _ hx2 rfl⟩
 case g9=>
  intro v w1 hx (q0:v 0 = _) (q1:v 1 = _) (q2:v 2 = _) (q3:v 3 = _) (q4:v 4 = _) _ (q6:v 6 = _) (q7:v 7 = _) (q8:v 8 = _);intro bb hbb;subst hbb;refine ⟨_,fun w=>?_,rfl⟩;go_simp
 case post =>
  intro v w1 hx;(iterate 5 intro (zq:v _ = _));intro (q5:IsTree w1 (v 5) ⟨[],[],[]⟩);(iterate 4 intro (zq:v _ = _));simp only [Flow.All,Flow.acts,Act.put];go_simp;go_wp2;go_ret;exact ⟨rfl,HX8.out.trans (hdr.trans hx)⟩
end Go.Proofs
namespace Go.Proofs
open Go.RowKit Go.Tw Go.Flow
def Keep (T:TypeId) (w w':World):Prop:=∀ b S cs,S ≠ T -> Blk w b S cs -> Blk w' b S cs
theorem Keep.trans {T:TypeId} {a b c:World} (h:Keep T a b) (k:Keep T b c):Keep T a c:=fun x S cs hS hb=>k x S cs hS (h x S cs hS hb)
theorem Keep.ext {T:TypeId} {w w':World} (h:Ext w w'):Keep T w w':=fun _ _ _ _ hb=>hb.ext h
theorem Keep.store {T:TypeId} {w w':World} {g:Nat} {cs:Array Value} (hb:Blk w g T cs) (ho:∀ k,k ≠ g -> w'.heap[k]? = w.heap[k]?):Keep T w w':=fun _ _ _ hS h=>h.only (Q2a h hb hS) ho
def Q7a (T:TypeId) (w:World) (v:Value) (t:Tree):Prop:=∀ w',Keep T w w' -> IsTree w' v t
theorem Q7a.keep {T:TypeId} {w w':World} {v:Value} {t:Tree} (h:Q7a T w v t) (k:Keep T w w'):Q7a T w' v t:=fun _ h'=>h _ (k.trans h')
theorem Q7a.ext {T:TypeId} {w w':World} {v:Value} {t:Tree} (h:Q7a T w v t) (k:Ext w w'):Q7a T w' v t:=h.keep (.ext k)
theorem Q7a.is {T:TypeId} {w:World} {v:Value} {t:Tree} (h:Q7a T w v t):IsTree w v t:=h _ (.ext (Ext.refl _))
theorem Q0s {α:Type} {T:TypeId} {w w':World} {base k:Nat} {e:TypeId} {enc:α -> List Value} {v:Value} {l:List α} (h:Q1d w base e k enc v l) (hT:e ≠ T) (hk:Keep T w w'):Q1d w' base e k enc v l:=by
 obtain ⟨h1,h2⟩:=h;refine ⟨h1,?_⟩
 rcases h2 with h2 | ⟨g,cap,cur,hv,hb,hg,r⟩
 . exact .inl h2
 . exact .inr ⟨g,cap,cur,hv,hb,hk g e cur hT hg,r⟩
theorem Q3l {T:TypeId} {w w':World} {v:Value} {l:List Int} (h:Q0r w 0 3 (.int .i64) v l) (hT:3 ≠ T) (hk:Keep T w w'):Q0r w' 0 3 (.int .i64) v l:=by
 obtain ⟨h1,h2⟩:=h;refine ⟨h1,?_⟩
 rcases h2 with h2 | ⟨g,cap,cur,hv,hb,hg,r⟩
 . exact .inl h2
 . exact .inr ⟨g,cap,cur,hv,hb,hk g _ cur hT hg,r⟩
theorem X3o (T:TypeId) (w:World):Q7a T w Z9n ⟨[],[],[]⟩:=fun _ _=>Q7g _
theorem _root_.Go.Tw.IsTree.cells {w:World} {v:Value} {t:Tree} (h:IsTree w v t):∃ cs,v = .agg cs /\ cs.size = 3 /\ ∀ u ∈ cs.toList,u.oneCell' = true:=by
 obtain ⟨a,b,c,rfl,h3⟩:=h;obtain ⟨A,capa,rfl,_⟩:=h3.basics.opened;obtain ⟨B,capb,rfl,_⟩:=h3.causes.opened;obtain ⟨G,capg,rfl,_⟩:=h3.gates.opened;refine ⟨_,rfl,rfl,?_⟩;intro u hu;simp only [List.mem_cons,List.not_mem_nil,or_false] at hu
 rcases hu with rfl | rfl | rfl <;> rfl
theorem X7y (w:World) (u v:Value) (D X:Tree) (E:Int) (hu:IsTree w u D) (hv:IsTree w v X) (h0:E = 0 -> X = D /\ Few D) (h1:E ≠ 0 -> D = ⟨[],[],[]⟩) :
    Calls Tryz.prog 14 #[u,.int .i64 E,.int .i64 E,v] w fun e w'=>e = .returned (.bool true) /\ Ext w w':=by
 by_cases hE:E = 0
 . subst hE
   obtain ⟨rfl,hf⟩:=h0 rfl;exact Z3v w u v X hu hv hf
 . obtain rfl:=h1 hE
   exact Z3a w u v X E hE hu hv
theorem X1k {P:Program} {o:Oper} {a:Act} (x:Operand) (i:Nat) (ho:o.op = .extract x i) {vs:Array Value} {u:Value} (hx:a.eval x = .tuple vs) (hv:vs[i]? = some u) (w:World):(execOp a.eval o).run P w = .ok (.value u) w:=by
 unfold execOp;simp only [ho,hx,Instr.extract,hv,Sem.run_bind,Sem.run_pure,Result.andThen_ok]
theorem Y5l {P:Program} {o:Oper} {a:Act} (x:Operand) (ho:o.op = .move x) {u:Value} (hx:a.eval x = u) (w:World):(execOp a.eval o).run P w = .ok (.value u) w:=by
 unfold execOp;simp only [ho,hx,Sem.run_pure]
theorem Z5s {cs:Array Value} (h:cs.size = 3):∃ a b c,cs = #[a,b,c]:=by
 obtain ⟨l⟩:=cs
 match l,h with
 | [a,b,c],_=>exact ⟨a,b,c,rfl⟩
theorem X6e {P:Program} {K:Value -> World -> Prop} {o:Oper} {a:Act} {w:World} (x:Operand) (ho:o.op = .assign x) {u:Value} (hx:a.eval x = u) (h:K u w):gives P K ((execOp a.eval o).run P w):=by
 unfold execOp;simp only [ho,hx,Sem.run_pure];exact h
end Go.Proofs
namespace Go.Tw
def Z6m (k:Nat):Code -> Bool
 | .region n _ _=>Nat.beq n k
 | .seq a _=>Z6m k a
 | _=>false
def Z6e (k:Nat):Code -> Option Code
 | .seq a b=>if Z6m k a = true then some (.seq a b) else Z6e k b
 | _=>none
noncomputable def codeFrom (fn:Func) (k:Nat):Code:=((fn.body.bind (Z6e k)).getD .skip)
end Go.Tw
namespace Go.Proofs
open Go.RowKit Go.Tw Go.Flow
def Q3h (na nb:Int) (c:Q7s):Q7s:=⟨c.name,c.chance,Q3d nb na 0 c.members⟩
def Q1y (na nb:Int) (g:Gate):Gate:=⟨g.kind,g.need,Q3d na 0 nb g.inputs⟩
def Q3k (na nb ga:Int) (g:Gate):Gate:=⟨g.kind,g.need,Q3d nb na (na + ga) g.inputs⟩
def Q6n (a b:Tree):Int:=(a.basics.length:Int) + b.basics.length + (a.gates.length + b.gates.length) - 1
def Q0w (a b:Tree) (kind:ByteArray):Tree :=
 ⟨a.basics ++ b.basics,a.causes ++ b.causes.map (Q3h a.basics.length b.basics.length),
  a.gates.map (Q1y a.basics.length b.basics.length) ++ b.gates.map (Q3k a.basics.length b.basics.length a.gates.length) ++ [⟨kind,0,[Q6n a b - b.gates.length,Q6n a b]⟩]⟩
def Q6d (a b:Tree):Bool:=(Q5b a).any fun s=>Y3b (Q5b b) s
def X0a (a b:Tree):Bool:=decide (12 < a.basics.length + b.basics.length + a.causes.length + b.causes.length) || decide (32 <= a.gates.length + b.gates.length)
def Q4r (a b:Tree) (kind:ByteArray):Int:=Q0g [a.err,b.err,Q0m (!(kind == Q8x) && !(kind == sOr)) 13]
def Q1q (a b:Tree):Int:=Q0g [Q0m (Q6d a b) 9,Q0m (X0a a b) 5]
def Q3t (a b:Tree) (kind:ByteArray):Int:=if Q4r a b kind = 0 then Q1q a b else Q4r a b kind
def Q8j (a b:Tree) (kind:ByteArray):Tree:=if Q3t a b kind = 0 then Q0w a b kind else ⟨[],[],[]⟩
def Q6j (w:World) (L:List (ByteArray × Int × Value)) (l:List (ByteArray × Int × List Int)):Prop :=
 L.length = l.length /\ ∀ i (h1:i < L.length) (h2:i < l.length),L[i].1 = l[i].1 /\ L[i].2.1 = l[i].2.1 /\ Q0r w 0 3 (.int .i64) L[i].2.2 l[i].2.2
theorem Q6j.nil (w:World):Q6j w [] []:=⟨rfl,fun _ h=>absurd h (Nat.not_lt_zero _)⟩
theorem Q6j.ext {w w':World} {L:List (ByteArray × Int × Value)} {l:List (ByteArray × Int × List Int)} (h:Q6j w L l) (hx:Ext w w'):Q6j w' L l :=
 ⟨h.1,fun i h1 h2=>⟨(h.2 i h1 h2).1,(h.2 i h1 h2).2.1,(h.2 i h1 h2).2.2.below hx⟩⟩
theorem Q6j.keep {T:TypeId} {w w':World} {L:List (ByteArray × Int × Value)} {l:List (ByteArray × Int × List Int)} (h:Q6j w L l) (hT:3 ≠ T) (hk:Keep T w w'):Q6j w' L l :=
 ⟨h.1,fun i h1 h2=>⟨(h.2 i h1 h2).1,(h.2 i h1 h2).2.1,Q3l (h.2 i h1 h2).2.2 hT hk⟩⟩
theorem Q6j.snoc {w:World} {L:List (ByteArray × Int × Value)} {l:List (ByteArray × Int × List Int)} (h:Q6j w L l) (n:ByteArray) (c:Int) {m:Value} {xs:List Int} (hm:Q0r w 0 3 (.int .i64) m xs):Q6j w (L ++ [(n,c,m)]) (l ++ [(n,c,xs)]):=by
 refine ⟨by simp [h.1],fun i h1 h2=>?_⟩
 by_cases hi:i < L.length
 . rw [List.getElem_append_left hi,List.getElem_append_left (by rw [<- h.1]; exact hi)]
   exact h.2 i hi (by rw [<- h.1]; exact hi)
 . have e:i = L.length:=by simp at h1; omega
   subst e;have e2:L.length = l.length:=h.1;simp only [List.getElem_concat_length];have e3:(l ++ [(n,c,xs)])[L.length] = (n,c,xs):=by simp [e2]
   rw [e3];exact ⟨rfl,rfl,hm⟩
theorem Q6j.set {w:World} {L:List (ByteArray × Int × Value)} {l:List (ByteArray × Int × List Int)} (h:Q6j w L l) {i:Nat} (_hi:i < L.length) (n:ByteArray) (c:Int) {m:Value} {xs:List Int} (hm:Q0r w 0 3 (.int .i64) m xs):Q6j w (L.set i (n,c,m)) (l.set i (n,c,xs)):=by
 refine ⟨by simp [h.1],fun j h1 h2=>?_⟩
 have hj:j < L.length:=by simpa using h1
 have hj2:j < l.length:=by simpa using h2
 by_cases e:i = j
 . subst e
   simp only [List.getElem_set_self,true_and];exact hm
 . rw [List.getElem_set_ne e,List.getElem_set_ne e]
   exact h.2 j hj hj2
def X7n (c:Q7s):ByteArray × Int × List Int:=(c.name,c.chance,c.members)
def X1c (g:Gate):ByteArray × Int × List Int:=(g.kind,g.need,g.inputs)
theorem Q6j.causes {w:World} {base:Nat} {T:TypeId} {v:Value} {L:List (ByteArray × Int × Value)} {l:List Q7s} (h:Q6j w L (l.map X7n)) (ho:Q1d w base T 3 enc3 v L) (hl:l.length <= 1000) (hs:∀ i,i < l.length -> Short (cName l i) /\ (Q0e l i).length <= 17592186043904):Q3p w v l:=by
 have hlen:L.length = l.length:=by rw [h.1,List.length_map]
 refine ho.rowsOf hlen (by omega) Q0o (fun j h1 h2=>?_) (fun c c' x hc h=>?_)
 . obtain ⟨e1,e2,e3⟩:=h.2 j h1 (by rw [List.length_map]; exact h2)
   have hsj:=hs j h2;have e:l.getD j default = l[j]:=getD_at h2;unfold cName Q0e at hsj;rw [e] at hsj;simp only [List.getElem_map,X7n] at e1 e2 e3;refine ⟨?_,?_,?_,hsj.1⟩
   . show Value.string L[j].1 = _; rw [e1]
   . show Value.int .i64 L[j].2.1 = _; rw [e2]
   . exact e3.ints hsj.2
 . obtain ⟨h1,h2,h3,h4⟩:=h
   exact ⟨by rw [<- hc 0 (by omega)]; exact h1,by rw [<- hc 1 (by omega)]; exact h2,by rw [<- hc 2 (by omega)]; exact h3,h4⟩
theorem Q6j.gates {w:World} {base:Nat} {T:TypeId} {v:Value} {L:List (ByteArray × Int × Value)} {l:List Gate} (h:Q6j w L (l.map X1c)) (ho:Q1d w base T 3 enc3 v L) (hl:l.length <= 1000) (hs:∀ i,i < l.length -> Short (Q2f l i) /\ (Q0i l i).length <= 17592186043904):Q4z w v l:=by
 have hlen:L.length = l.length:=by rw [h.1,List.length_map]
 refine ho.rowsOf hlen (by omega) Q0o (fun j h1 h2=>?_) (fun c c' x hc h=>?_)
 . obtain ⟨e1,e2,e3⟩:=h.2 j h1 (by rw [List.length_map]; exact h2)
   have hsj:=hs j h2;have e:l.getD j default = l[j]:=getD_at h2;unfold Q2f Q0i at hsj;rw [e] at hsj;simp only [List.getElem_map,X1c] at e1 e2 e3;refine ⟨?_,?_,?_,hsj.1⟩
   . show Value.string L[j].1 = _; rw [e1]
   . show Value.int .i64 L[j].2.1 = _; rw [e2]
   . exact e3.ints hsj.2
 . obtain ⟨h1,h2,h3,h4⟩:=h
   exact ⟨by rw [<- hc 0 (by omega)]; exact h1,by rw [<- hc 1 (by omega)]; exact h2,by rw [<- hc 2 (by omega)]; exact h3,h4⟩
theorem X5i {α:Type} {enc:α -> List Value} {k:Nat} (hk:∀ x,(enc x).length = k) {w:World} {g n:Nat} {T:TypeId} {f:Nat -> α} (hb:Blk w g T (Q1f enc n f)) (hn:n <= 100000) {base:Nat} (hg:base <= g):Q1d w base T k enc (.slice (some ⟨g,0,none⟩) n n) ((List.range n).map f):=by
 have hs:=Q1b hk n f;refine ⟨by rw [Q4a hk],.inr ⟨g,n,_,by simp,hg,hb,by simp,by unfold maxLen; omega,hs,?_⟩⟩
 rw [Q9u];simp only [List.length_map,List.length_range];rw [List.take_of_length_le (by rw [Q4a hk]; simp)]
theorem X2g {w:World} {n:Nat} {f:Nat -> ByteArray × Int × Value} {l:List (ByteArray × Int × List Int)} (hl:l.length = n) (h:∀ i (hi:i < l.length),(f i).1 = l[i].1 /\ (f i).2.1 = l[i].2.1 /\ Q0r w 0 3 (.int .i64) (f i).2.2 l[i].2.2):Q6j w ((List.range n).map f) l :=
 ⟨by simp [hl],fun i h1 h2=>by simp only [List.getElem_map,List.getElem_range]; exact h i h2⟩
end Go.Proofs
namespace Go.Proofs
open Go.RowKit Go.Tw Go.Flow
theorem X0p {α:Type} {w w':World} {base k:Nat} {e:TypeId} {enc:α -> List Value} {v:Value} {l:List α} (h:Q1d w base e k enc v l) (hg:w.grownBy w' v.ownBlock):Keep e w w':=fun b S cs hS hb=>by
 have hne:some b ≠ v.ownBlock:=by
  intro e1
  rcases h.2 with ⟨rfl,_⟩ | ⟨g,cap,cur,rfl,_,hgl,_⟩
  . cases e1
  . injection e1 with e1
    subst e1;unfold Blk at hb;rw [hb] at hgl;injection hgl with hgl;injection hgl with _ h3 _;exact hS h3
 unfold Blk at hb ⊢;rw [hg.block b (Array.getElem?_eq_some_iff.1 hb).1 hne];exact hb
def Y0o {α:Type} (w:World) (M:Nat) (e:TypeId) (k:Nat) (enc:α -> List Value) (v:Value) (l:List α):Prop :=
 Q1d w M e k enc v l ∨ (Q1d w 0 e k enc v l /\ ∃ b,v = .slice b l.length l.length)
theorem Y0o.own {α:Type} {w:World} {M k:Nat} {e:TypeId} {enc:α -> List Value} {v:Value} {l:List α} (h:Y0o w M e k enc v l):Q1d w 0 e k enc v l:=by
 rcases h with h | h
 . exact Q2q h (Nat.zero_le _)
 . exact h.1
theorem Y0o.shape {α:Type} {w:World} {M k:Nat} {e:TypeId} {enc:α -> List Value} {v:Value} {l:List α} (h:Y0o w M e k enc v l):∃ b c,v = .slice b l.length c /\ l.length <= c:=h.own.shape
theorem Y0o.keep {α:Type} {T:TypeId} {w w':World} {M k:Nat} {e:TypeId} {enc:α -> List Value} {v:Value} {l:List α} (h:Y0o w M e k enc v l) (hT:e ≠ T) (hk:Keep T w w'):Y0o w' M e k enc v l:=by
 rcases h with h | h
 . exact .inl (Q0s h hT hk)
 . exact .inr ⟨Q0s h.1 hT hk,h.2⟩
theorem Y0o.ext {α:Type} {w w':World} {M k:Nat} {e:TypeId} {enc:α -> List Value} {v:Value} {l:List α} (h:Y0o w M e k enc v l) (hx:Ext w w'):Y0o w' M e k enc v l:=by
 rcases h with h | h
 . exact .inl (h.below hx)
 . exact .inr ⟨h.1.below hx,h.2⟩
theorem Q9j {α:Type} {P:Program} {K:Value -> World -> Prop} {o:Oper} {a:Act} {w:World} (s x:Operand) (t:TypeId) (ho:o.op = .call { callee:=.builtin .append,args:=#[s,x],argTypes:=#[t,t] })
    (M:Nat) (e:TypeId) (i:TypeInfo) (z:Value) (k bytes:Nat) (ht:P.underlying t = some (.slice e)) (hi:P.info? e = some i) (hz:i.zero = some z) (hsize:i.size = k) (hby:i.bytes = bytes) (hzs:z.cells.size = k) (hk0:0 < k)
    (enc:α -> List Value) (hk:∀ x,(enc x).length = k) (v:Value) (xs:List α) (y:α) (hs:a.eval s = v) (hown:Y0o w M e k enc v xs) (ad:Addr) (hx:a.eval x = .slice (some ad) 1 1)
    (hA:∀ j u,(enc y)[j]? = some u -> w.cell? (ad.add j) = some u) (h1:∀ u ∈ enc y,u.oneCell' = true)
    (h63:xs.length <= 99999) (hb:bytes <= 1000) (hM:M <= w.heap.size)
    (h:∀ v' w',Q1d w' M e k enc v' (xs ++ [y]) -> Keep e w w' -> Below M w w' -> K v' w'):gives P K ((execOp a.eval o).run P w):=by
 have hfl:[y].flatMap enc = enc y:=by simp
 rcases hown with hown | ⟨hown,b,rfl⟩
 . refine Q5f s x t ho M e i z k bytes ht hi hz hsize hby hzs hk0 enc hk v xs [y] hs hown (some ad) 1 hx (fun _=>⟨ad,rfl,by rw [hfl]; exact hA⟩) (by rw [hfl]; exact h1) (by show xs.length + 1 <= 100000; omega) hb hM ?_
   intro v' w' h2 hg;exact h v' w' h2 (X0p hown hg) (Below.grown (Below.refl _ _) hg hM fun j hj=>(hown.lt j hj).1)
 . have hbytes:(xs.length + 1) * bytes <= 140737488355328:=by
    have:(xs.length + 1) * bytes <= 100000 * 1000:=Nat.mul_le_mul (by omega) hb
    omega
   have fin:∀ v' w',(Builtin.append_ #[t,t] o.type #[.slice b xs.length xs.length,.slice (some ad) 1 1]).run P w = .ok v' w' -> w'.ownsRow w.heap.size e k v' (xs.length + 1) (xs.flatMap enc ++ enc y) -> w.grownBy w' none -> gives P K ((execOp a.eval o).run P w):=by
    intro v' w' hr h2 h3;unfold execOp;simp only [ho,resolve,invoke,builtin,Sem.run_bind,Sem.run_pure,Result.andThen_ok,List.map_toArray,List.map_cons,List.map_nil,hs,hx,hr];refine h v' w' (Q2q (Q1d.snoc h2) hM) (fun b' S cs _ hb'=>?_) (Below.grown (Below.refl _ _) h3 hM fun j hj=>by cases hj)
    unfold Blk at hb' ⊢;rw [h3.block b' (Array.getElem?_eq_some_iff.1 hb').1 (fun e=>by cases e)]
    exact hb'
   rcases hown.2 with ⟨h0,hn⟩ | ⟨g,cap,cur,hv,hbg,hgl,hc,hm,hcs,htk⟩
   . have e0:xs = []:=List.eq_nil_of_length_eq_zero hn
     subst e0;have e1:b = none:=by injection h0
     subst e1;obtain ⟨v',w',hr,h2,h3,_⟩:=run_append_own (P:=P) w w.heap.size t o.type e i z k bytes ht hi hz hsize hby hzs hk0 (.slice none 0 0) 0 [] (World.ownsRow_nil w _ e k) ad 1 1 (enc y) (by rw [hk,Nat.one_mul]) hA h1 (by unfold maxLen; omega) (by simpa using hbytes) (Nat.le_refl _)
     exact fin v' w' hr (by simpa using h2) h3
   . cases hv
     have hlen:(xs.flatMap enc).length = xs.length * k:=Q4a hk xs;obtain ⟨v',w',hr,h2,h3⟩:=run_append_arg_grows (P:=P) (w:=w) t o.type e i z k bytes ht hi hz hsize hby hzs hk0 ⟨g,0,none⟩ xs.length xs.length (xs.flatMap enc) hlen (fun j u hj=>by
      rw [addr_add,Nat.zero_add,Blk.cell hgl];have h5:=congrArg (fun l=>l[j]?) htk;have hjl:j < xs.length * k:=by rw [<- hlen]; exact (List.getElem?_eq_some_iff.1 hj).1
      rw [List.getElem?_take,if_pos hjl] at h5;rw [<- hj,<- h5,Array.getElem?_toList]) ad 1 1 (enc y) (by rw [hk,Nat.one_mul]) hA (by omega) (by unfold maxLen; omega) hbytes
     exact fin v' w' hr h2 h3
end Go.Proofs
