/- Contract of the law's tree: true when both say the same. What is read of a result whatever becomes of the blocks of one type; what the law FaultChanges asks of the three trees. Contracts: the reader's word and integers. Merged trees: what Merge comes to; the slices of triples that it makes, and what they read as. A slice of the call's own, or one that is full: an append of one element makes it one of the call's own behind a mark, and leaves all blocks ahead of the mark alone. -/
import Derived.Test.YtgopmebjbkdfgaaGreatDoorTx31
import Derived.Test.YtgopmebjbkdfgaaGreatDoorTx32
import Derived.Test.YtgopmebjbkdfgaaGreatDoorTx24
import Derived.Test.YtgopmebjbkdfgaaGreatDoorTx30
import Derived.Test.YtgopmebjbkdfgaaGreatDoorTx26
import Derived.Test.YtgopmebjbkdfgaaGreatDoorTx25
import Derived.Test.YtgopmebjbkdfgaaGreatDoorTx23
import Derived.Test.YtgopmebjbkdfgaaGreatDoorTx28
import Derived.Lib.AppendZeros
import Derived.Test.YtgopmebjbkdfgaaGreatDoorTx01
import Derived.ArgAppend
set_option maxRecDepth 1000000
set_option maxHeartbeats 64000000
set_option linter.unusedVariables false
set_option linter.unusedSimpArgs false
set_option linter.constructorNameAsVariable false
namespace Go.Proofs
open Go.RowKit Go.Tw Go.Flow
theorem Z4x (w:World) (u v:Value) (T:Tree) (hu:IsTree w u T) (hv:IsTree w v T) (hf:Few T) :
    Calls Tryz.prog 14 #[u,.int .i64 0,.int .i64 0,v] w fun e w'=>e = .returned (.bool true) /\ Ext w w':=by
 obtain ⟨a1,a2,a3,rfl,hu0⟩:=hu;obtain ⟨A,capa,rfl,_,_,_⟩:=hu0.basics.opened;obtain ⟨B,capb,rfl,_,_,_⟩:=hu0.causes.opened;obtain ⟨G,capg,rfl,_,_,_⟩:=hu0.gates.opened;obtain ⟨c1,c2,c3,rfl,hv0⟩:=hv;obtain ⟨C,capc,rfl,_,_,_⟩:=hv0.basics.opened;obtain ⟨D,capd,rfl,_,_,_⟩:=hv0.causes.opened;obtain ⟨E,cape,rfl,_,_,_⟩:=hv0.gates.opened;have HU0:=Lib.hid hu0;have HV0:=Lib.hid hv0;have HF:=Lib.hid hf;clear hu0 hv0 hf;go_enter Tryz.func14,Tryz.ntmps14;go_upto_region 3 with fail;change Code.wp _ _ _ _ ((w.alloc (.cells #[.slice A T.basics.length capa,.slice B T.causes.length capb,.slice G T.gates.length capg] 33)).alloc (.cells #[.slice C T.basics.length capc,.slice D T.causes.length capd,.slice E T.gates.length cape] 26));obtain ⟨W,hWW,k0,k1,HXW,eW⟩:=Q5l w 33 #[.slice A T.basics.length capa,.slice B T.causes.length capb,.slice G T.gates.length capg] 26 #[.slice C T.basics.length capc,.slice D T.causes.length capd,.slice E T.gates.length cape];rw [hWW];clear hWW;have HU:=Lib.hid (HU0.out.ext HXW.out);have HV:=Lib.hid (HV0.out.ext HXW.out);have K0:=Lib.hid k0;have K1:=Lib.hid k1;have hdr:=(Ext.refl W).drew;clear k0 k1;refine Flow.Q2p [.p,.p,.p,.p,.w,.w,.w,.w,.p,.p] [0,1,2,3,4,5,6,7,8,9] [[],[],[0,1],[2],[3],[3,4],[3],[3,5,6],[3,7],[0,1,2,3,4,5,6,7,8]]
  [.c 0 (.int .i64 0),.c 1 (.int .i64 0),.c 2 (.bool true),.c 3 (.bool true),.c 4 (.agg #[.slice A T.basics.length capa,.slice B T.causes.length capb,.slice G T.gates.length capg]),⟨fun v wz=>IsTree wz (v 5) T,fun _ _ _ hx h=>h.ext hx⟩,.c 6 (.agg #[.slice C T.basics.length capc,.slice D T.causes.length capd,.slice E T.gates.length cape]),.c 7 (.bool true),.c 8 (.bool true),.c 9 (.bool true)]
  (by kernel_rfl) rfl (by kernel_rfl) ⟨?g0,?g1,?g2,?g3,?g4,?g5,?g6,?g7,?g8,?g9,trivial⟩ ?post
 case g0 | g1=>
  intro v w1 hx;intro bb hbb;subst hbb;refine ⟨_,fun w=>?_,rfl⟩;go_simp
 case g2 | g3 | g8=>
  intro v w1 hx;(repeat intro (zq:v _ = _));intro bb hbb;subst hbb;refine ⟨_,fun w=>?_,rfl⟩;go_simp
 case g4=>
  intro v w1 hx;(repeat intro (zq:v _ = _));intro bb hbb;refine Flow.Q0p (d:=15) rfl rfl (by rw [hbb]; simp only [size_put]; exact (by decide:15 < 21)) (by rw [hbb]; dsimp only; (try simp (discharger:=decide) only [eval_put_ne]); rw [Q0a (by simp only [size_put]; exact (by decide:15 < 21))]; assumption) ?_
  intro K2 hK2;have o1:bb.eval (.tmp 4) = .pointer (some ⟨w.heap.size,0,none⟩):=by rw [hbb]; dsimp only; (try simp (discharger:=decide) only [eval_put_ne]); rfl
  exact Q0n (.tmp 4) _ rfl Tryz.Q2n Tryz.Q0v o1 (K0.out.ext (hdr.trans hx)) rfl (hK2 _ _ (Ext.refl _) rfl)
 case g5=>
  intro v w1 hx;(repeat intro (zq:v _ = _));intro bb hbb;refine Flow.Q0p (d:=15) rfl rfl (by rw [hbb]; simp only [size_put]; exact (by decide:15 < 21)) (by rw [hbb]; dsimp only; (try simp (discharger:=decide) only [eval_put_ne]); rw [Q0a (by simp only [size_put]; exact (by decide:15 < 21))]; assumption) ?_
  subst hbb;intro K hK;go_simp;refine Q0d (Y5z w1 _ T ⟨_,_,_,rfl,HU.out.ext (hdr.trans hx)⟩ HF.out.b HF.out.c HF.out.g) ?_;rintro e w2 ⟨x,rfl,h,hx2⟩;exact ⟨_,rfl,hK _ _ hx2 h⟩
 case g6=>
  intro v w1 hx;(repeat intro (zq:v _ = _));intro bb hbb;refine Flow.Q0p (d:=15) rfl rfl (by rw [hbb]; simp only [size_put]; exact (by decide:15 < 21)) (by rw [hbb]; dsimp only; (try simp (discharger:=decide) only [eval_put_ne]); rw [Q0a (by simp only [size_put]; exact (by decide:15 < 21))]; assumption) ?_
  intro K2 hK2;have o1:bb.eval (.tmp 7) = .pointer (some ⟨w.heap.size + 1,0,none⟩):=by rw [hbb]; dsimp only; (try simp (discharger:=decide) only [eval_put_ne]); rfl
  exact Q0n (.tmp 7) _ rfl Tryz.Q2s Tryz.Q0x o1 (K1.out.ext (hdr.trans hx)) rfl (hK2 _ _ (Ext.refl _) rfl)
 case g7=>
  intro v w1 hx (q3:v 3 = _) (q5:IsTree w1 (v 5) T) (q6:v 6 = _);intro bb hbb;refine Flow.Q0p (d:=15) rfl rfl (by rw [hbb]; simp only [size_put]; exact (by decide:15 < 21)) (by rw [hbb]; dsimp only; (try simp (discharger:=decide) only [eval_put_ne]); rw [Q0a (by simp only [size_put]; exact (by decide:15 < 21))]; exact q3) ?_
  subst hbb;intro K hK;go_simp;refine Q0d (Y8w w1 _ _ T q5 ⟨_,_,_,rfl,HV.out.ext (hdr.trans hx)⟩) ?_;rintro e w2 ⟨rfl,hx2⟩;exact ⟨_,rfl,hK _ _ hx2 rfl⟩
 case g9=>
  intro v w1 hx (q0:v 0 = _) (q1:v 1 = _) (q2:v 2 = _) (q3:v 3 = _) (q4:v 4 = _) _ (q6:v 6 = _) (q7:v 7 = _) (q8:v 8 = _);intro bb hbb;subst hbb;refine ⟨_,fun w=>?_,rfl⟩;go_simp
 case post =>
  intro v w1 hx;(iterate 5 intro (zq:v _ = _));intro (q5:IsTree w1 (v 5) T);(iterate 4 intro (zq:v _ = _));simp only [Flow.All,Flow.acts,Act.put];go_simp;go_wp2;go_ret;exact ⟨rfl,HXW.out.trans (hdr.trans hx)⟩
theorem Y9m (w:World) (u v:Value) (T:Tree) (bad:Int) (hb:bad ≠ 0) (hu:IsTree w u ⟨[],[],[]⟩) (hv:IsTree w v T) :
    Calls Tryz.prog 14 #[u,.int .i64 bad,.int .i64 bad,v] w fun e w'=>e = .returned (.bool true) /\ Ext w w':=by
 obtain ⟨a1,a2,a3,rfl,hu0⟩:=hu;obtain ⟨A,capa,rfl,_,_,_⟩:=hu0.basics.opened;obtain ⟨B,capb,rfl,_,_,_⟩:=hu0.causes.opened;obtain ⟨G,capg,rfl,_,_,_⟩:=hu0.gates.opened;obtain ⟨c1,c2,c3,rfl,hv0⟩:=hv;obtain ⟨C,capc,rfl,_,_,_⟩:=hv0.basics.opened;obtain ⟨D,capd,rfl,_,_,_⟩:=hv0.causes.opened;obtain ⟨E,cape,rfl,_,_,_⟩:=hv0.gates.opened;have HU0:=Lib.hid hu0;have hbne:(bad != 0) = true:=by simp [hb]
 clear hu0 hv0 hb;go_enter Tryz.func14,Tryz.ntmps14;go_upto_region 1 with fail;change Code.wp _ _ _ _ ((w.alloc (.cells #[.slice A 0 capa,.slice B 0 capb,.slice G 0 capg] 33)).alloc (.cells #[.slice C T.basics.length capc,.slice D T.causes.length capd,.slice E T.gates.length cape] 26));obtain ⟨W,hWW,k0,k1,HXW,eW⟩:=Q5l w 33 #[.slice A 0 capa,.slice B 0 capb,.slice G 0 capg] 26 #[.slice C T.basics.length capc,.slice D T.causes.length capd,.slice E T.gates.length cape];rw [hWW];clear hWW;have HU:=Lib.hid (HU0.out.ext HXW.out);have K0:=Lib.hid k0;have K1:=Lib.hid k1;clear k0 k1;go_upto_region 3 with (refine Q0c rfl _ _ 26 rfl Tryz.Q0x rfl rfl K1.out rfl rfl ?_ ?_; (focus (intro u hu; simp only [List.mem_cons,List.not_mem_nil,or_false] at hu; rcases hu with rfl | rfl | rfl <;> rfl)); intro w8 hb8 hl8 ho8; refine halted ?_)
 have KU:=Lib.hid (K0.out.only (by omega) ho8)
 have KV:=Lib.hid hb8;have HX8:Hid (Ext w w8):=Lib.hid (Below.trans HXW.out (hl8 _ (by omega)))
 have HU8:Hid (IsTree w8 (.agg #[.slice A 0 capa,.slice B 0 capb,.slice G 0 capg]) ⟨[],[],[]⟩):=Lib.hid (⟨_,_,_,rfl,HU0.out.ext HX8.out⟩);clear hb8 hl8 ho8 K0 K1 HU;have hdr:=(Ext.refl w8).drew;unfold Q2t;go_upto_region 3 with fail;refine Flow.Q2p [.p,.p,.p,.p,.w,.w,.w,.w,.p,.p] [0,1,2,3,4,5,6,7,8,9] [[],[],[0,1],[2],[3],[3,4],[3],[3,5,6],[3,7],[0,1,2,3,4,5,6,7,8]]
  [.c 0 (.int .i64 bad),.c 1 (.int .i64 bad),.c 2 (.bool true),.c 3 (.bool true),.c 4 (.agg #[.slice A 0 capa,.slice B 0 capb,.slice G 0 capg]),⟨fun v wz=>IsTree wz (v 5) ⟨[],[],[]⟩,fun _ _ _ hx h=>h.ext hx⟩,.c 6 (.agg #[.slice none 0 0,.slice none 0 0,.slice none 0 0]),.c 7 (.bool true),.c 8 (.bool true),.c 9 (.bool true)]
  (by kernel_rfl) rfl (by kernel_rfl) ⟨?g0,?g1,?g2,?g3,?g4,?g5,?g6,?g7,?g8,?g9,trivial⟩ ?post
 case g0 | g1=>
  intro v w1 hx;intro bb hbb;subst hbb;refine ⟨_,fun w=>?_,rfl⟩;go_simp
 case g2 | g3 | g8=>
  intro v w1 hx;(repeat intro (zq:v _ = _));intro bb hbb;subst hbb;refine ⟨_,fun w=>?_,rfl⟩;go_simp
 case g4=>
  intro v w1 hx;(repeat intro (zq:v _ = _));intro bb hbb;refine Flow.Q0p (d:=15) rfl rfl (by rw [hbb]; simp only [size_put]; exact (by decide:15 < 21)) (by rw [hbb]; dsimp only; (try simp (discharger:=decide) only [eval_put_ne]); rw [Q0a (by simp only [size_put]; exact (by decide:15 < 21))]; assumption) ?_
  intro K2 hK2;have o1:bb.eval (.tmp 4) = .pointer (some ⟨w.heap.size,0,none⟩):=by rw [hbb]; dsimp only; (try simp (discharger:=decide) only [eval_put_ne]); rfl
  exact Q0n (.tmp 4) _ rfl Tryz.Q2n Tryz.Q0v o1 (KU.out.ext (hdr.trans hx)) rfl (hK2 _ _ (Ext.refl _) rfl)
 case g5=>
  intro v w1 hx;(repeat intro (zq:v _ = _));intro bb hbb;refine Flow.Q0p (d:=15) rfl rfl (by rw [hbb]; simp only [size_put]; exact (by decide:15 < 21)) (by rw [hbb]; dsimp only; (try simp (discharger:=decide) only [eval_put_ne]); rw [Q0a (by simp only [size_put]; exact (by decide:15 < 21))]; assumption) ?_
  subst hbb;intro K hK;go_simp;refine Q0d (Y5z w1 _ ⟨[],[],[]⟩ (HU8.out.ext (hdr.trans hx)) (Nat.zero_le _) (Nat.zero_le _) (Nat.zero_le _)) ?_;rintro e w2 ⟨x,rfl,h,hx2⟩;exact ⟨_,rfl,hK _ _ hx2 h⟩
 case g6=>
  intro v w1 hx;(repeat intro (zq:v _ = _));intro bb hbb;refine Flow.Q0p (d:=15) rfl rfl (by rw [hbb]; simp only [size_put]; exact (by decide:15 < 21)) (by rw [hbb]; dsimp only; (try simp (discharger:=decide) only [eval_put_ne]); rw [Q0a (by simp only [size_put]; exact (by decide:15 < 21))]; assumption) ?_
  intro K2 hK2;have o1:bb.eval (.tmp 7) = .pointer (some ⟨w.heap.size + 1,0,none⟩):=by rw [hbb]; dsimp only; (try simp (discharger:=decide) only [eval_put_ne]); rfl
  exact Q0n (.tmp 7) _ rfl Tryz.Q2s Tryz.Q0x o1 (KV.out.ext (hdr.trans hx)) rfl (hK2 _ _ (Ext.refl _) rfl)
 case g7=>
  intro v w1 hx (q3:v 3 = _) (q5:IsTree w1 (v 5) ⟨[],[],[]⟩) (q6:v 6 = _);intro bb hbb;refine Flow.Q0p (d:=15) rfl rfl (by rw [hbb]; simp only [size_put]; exact (by decide:15 < 21)) (by rw [hbb]; dsimp only; (try simp (discharger:=decide) only [eval_put_ne]); rw [Q0a (by simp only [size_put]; exact (by decide:15 < 21))]; exact q3) ?_
  subst hbb;intro K hK;go_simp;refine Q0d (Y8w w1 _ _ ⟨[],[],[]⟩ q5 (Q2v _)) ?_;rintro e w2 ⟨rfl,hx2⟩;exact ⟨_,rfl,hK _ _ hx2 rfl⟩
 case g9=>
  intro v w1 hx (q0:v 0 = _) (q1:v 1 = _) (q2:v 2 = _) (q3:v 3 = _) (q4:v 4 = _) _ (q6:v 6 = _) (q7:v 7 = _) (q8:v 8 = _);intro bb hbb;subst hbb;refine ⟨_,fun w=>?_,rfl⟩;go_simp
 case post =>
  intro v w1 hx;(iterate 5 intro (zq:v _ = _));intro (q5:IsTree w1 (v 5) ⟨[],[],[]⟩);(iterate 4 intro (zq:v _ = _));simp only [Flow.All,Flow.acts,Act.put];go_simp;go_wp2;go_ret;exact ⟨rfl,HX8.out.trans (hdr.trans hx)⟩
end Go.Proofs
namespace Go.Proofs
open Go.RowKit Go.Tw Go.Flow
def Keep (T:TypeId) (w w':World):Prop:=∀ b S cs,S ≠ T -> Blk w b S cs -> Blk w' b S cs
theorem Keep.trans {T:TypeId} {a b c:World} (h:Keep T a b) (k:Keep T b c):Keep T a c:=fun x S cs hS hb=>k x S cs hS (h x S cs hS hb)
theorem Keep.ext {T:TypeId} {w w':World} (h:Ext w w'):Keep T w w':=fun _ _ _ _ hb=>hb.ext h
theorem Keep.store {T:TypeId} {w w':World} {g:Nat} {cs:Array Value} (hb:Blk w g T cs) (ho:∀ k,k ≠ g -> w'.heap[k]? = w.heap[k]?):Keep T w w':=fun _ _ _ hS h=>h.only (Q2b h hb hS) ho
def Z4m (T:TypeId) (w:World) (v:Value) (t:Tree):Prop:=∀ w',Keep T w w' -> IsTree w' v t
theorem Z4m.keep {T:TypeId} {w w':World} {v:Value} {t:Tree} (h:Z4m T w v t) (k:Keep T w w'):Z4m T w' v t:=fun _ h'=>h _ (k.trans h')
theorem Z4m.ext {T:TypeId} {w w':World} {v:Value} {t:Tree} (h:Z4m T w v t) (k:Ext w w'):Z4m T w' v t:=h.keep (.ext k)
theorem Z4m.is {T:TypeId} {w:World} {v:Value} {t:Tree} (h:Z4m T w v t):IsTree w v t:=h _ (.ext (Ext.refl _))
theorem Q1m {α:Type} {T:TypeId} {w w':World} {base k:Nat} {e:TypeId} {enc:α -> List Value} {v:Value} {l:List α} (h:Q1o w base e k enc v l) (hT:e ≠ T) (hk:Keep T w w'):Q1o w' base e k enc v l:=by
 obtain ⟨h1,h2⟩:=h;refine ⟨h1,?_⟩
 rcases h2 with h2 | ⟨g,cap,cur,hv,hb,hg,r⟩
 . exact .inl h2
 . exact .inr ⟨g,cap,cur,hv,hb,hk g e cur hT hg,r⟩
theorem X2e {T:TypeId} {w w':World} {v:Value} {l:List Int} (h:Q0s w 0 3 (.int .i64) v l) (hT:3 ≠ T) (hk:Keep T w w'):Q0s w' 0 3 (.int .i64) v l:=by
 obtain ⟨h1,h2⟩:=h;refine ⟨h1,?_⟩
 rcases h2 with h2 | ⟨g,cap,cur,hv,hb,hg,r⟩
 . exact .inl h2
 . exact .inr ⟨g,cap,cur,hv,hb,hk g _ cur hT hg,r⟩
theorem Z5r.Z9s {w w0:World} {base:Nat} {t:Tree} {a b c vb vc vg:Value} {mc mg:Nat -> Value} (h:Z5r w base t vb vc vg mc mg) (ht:Q5t w0 a b c t):Z4m 26 w (.agg #[vb,vc,vg]) t:=fun w' hk =>
 ⟨_,_,_,rfl,(Z5r.tree (w:=w') ⟨Q1m h.bas (by decide) hk,Q1m h.cau (by decide) hk,Q1m h.gat (by decide) hk,fun i hi=>X2e (h.mem i hi) (by decide) hk,fun i hi=>X2e (h.inp i hi) (by decide) hk⟩ ht)⟩
theorem _root_.Go.Tw.IsTree.cells {w:World} {v:Value} {t:Tree} (h:IsTree w v t):∃ cs,v = .agg cs /\ cs.size = 3 /\ ∀ u ∈ cs.toList,u.oneCell' = true:=by
 obtain ⟨a,b,c,rfl,h3⟩:=h;obtain ⟨A,capa,rfl,_⟩:=h3.basics.opened;obtain ⟨B,capb,rfl,_⟩:=h3.causes.opened;obtain ⟨G,capg,rfl,_⟩:=h3.gates.opened;refine ⟨_,rfl,rfl,?_⟩;intro u hu;simp only [List.mem_cons,List.not_mem_nil,or_false] at hu
 rcases hu with rfl | rfl | rfl <;> rfl
theorem Q9x (w:World) (u v:Value) (D X:Tree) (E:Int) (hu:IsTree w u D) (hv:IsTree w v X) (h0:E = 0 -> X = D /\ Few D) (h1:E ≠ 0 -> D = ⟨[],[],[]⟩) :
    Calls Tryz.prog 14 #[u,.int .i64 E,.int .i64 E,v] w fun e w'=>e = .returned (.bool true) /\ Ext w w':=by
 by_cases hE:E = 0
 . subst hE
   obtain ⟨rfl,hf⟩:=h0 rfl;exact Z4x w u v X hu hv hf
 . obtain rfl:=h1 hE
   exact Y9m w u v X E hE hu hv
end Go.Proofs
namespace Go.Proofs
open Go.RowKit Go.Tw Go.Flow
theorem Tryz.X6m (w:World):(sizeOf 4).run Tryz.prog w = .ok 1 w:=by kernel_rfl
theorem Tryz.Y2b (w:World):(sizeOf 72).run Tryz.prog w = .ok 1 w:=by kernel_rfl
def Rd (w:World) (g:Nat) (ws:List ByteArray) (b:Bool):Prop :=
 ∃ A cap,Blk w g 202 #[.slice A ws.length cap,.bool b] /\ ws.length <= cap /\ ws.length <= 10000 /\ cap <= 17592186043904 /\
  (ws = [] ∨ ∃ s off cs,A = some ⟨s,off,none⟩ /\ Blk w s 9 cs /\ ∀ k (h:k < ws.length),cs[off + k]? = some (.string ws[k]))
theorem Rd.ext {w w':World} {g:Nat} {ws:List ByteArray} {b:Bool} (h:Rd w g ws b) (hx:Ext w w'):Rd w' g ws b:=by
 obtain ⟨A,cap,h1,h2,h3,h4,h5⟩:=h;refine ⟨A,cap,h1.ext hx,h2,h3,h4,?_⟩
 rcases h5 with h5 | ⟨s,off,cs,h6,h7,h8⟩
 . exact .inl h5
 . exact .inr ⟨s,off,cs,h6,h7.ext hx,h8⟩
theorem Rd.lt {w:World} {g:Nat} {ws:List ByteArray} {b:Bool} (h:Rd w g ws b):g < w.heap.size:=by
 obtain ⟨A,cap,h1,_⟩:=h;exact h1.lt
def Only (g:Nat) (w w':World):Prop:=(∀ n,n <= g -> Below n w w') /\ ∀ k,k ≠ g -> w'.heap[k]? = w.heap[k]?
theorem Only.trans {g:Nat} {a b c:World} (h:Only g a b) (k:Only g b c):Only g a c:=⟨fun n hn=>Below.trans (h.1 n hn) (k.1 n hn),fun x hx=>(k.2 x hx).trans (h.2 x hx)⟩
def emB (x:ByteArray):Bool:=x.data.toList.isEmpty
theorem X8x {x:ByteArray}:emB x = true ↔ x.toList = []:=by
 unfold emB;rw [List.isEmpty_iff,toList_nil_iff_emptyBytes]
 constructor
 . intro h; apply ByteArray.ext; exact Array.toList_inj.1 h
 . intro h; rw [h]; rfl
theorem Z2o (w:World) (g:Nat) (b:Bool) (h:Rd w g [] b) :
    Calls Tryz.prog 134 #[.pointer (some ⟨g,0,none⟩)] w fun e w'=>e = .returned (.string ⟨#[]⟩) /\ Rd w' g [] true /\ Only g w w':=by
 obtain ⟨A,cap,hb,hc1,_,hc2,_⟩:=h;have c0:=hb.cell 0;simp only [Go.Tw.gA,Go.Tw.gB,Go.Tw.gC] at c0;have HB:=Lib.hid hb;have HC:=Lib.hid hc2;clear hb;go_enter Tryz.func134,Tryz.ntmps134;go_wp2_with (refine Q0o rfl _ _ 4 rfl Tryz.X6m (u:=.bool true) (g:=g) (k:=1) rfl rfl rfl rfl HB.out (by show 1 < 2; omega) ?_; intro w2 hb2 hl2 ho2; refine halted ?_)
 have HR:Hid (Rd w2 g [] true):=Lib.hid ⟨A,cap,hb2,Nat.zero_le _,by simp,HC.out,.inl rfl⟩
 have HO:Hid (Only g w w2):=Lib.hid ⟨hl2,ho2⟩;clear hb2 hl2 ho2 c0;unfold Q2t;go_wp2;go_ret;exact ⟨rfl,HR.out,HO.out⟩
theorem X6i (w:World) (g:Nat) (x:ByteArray) (ws:List ByteArray) (b:Bool) (h:Rd w g (x :: ws) b) :
    Calls Tryz.prog 134 #[.pointer (some ⟨g,0,none⟩)] w fun e w'=>e = .returned (.string x) /\ Rd w' g ws (b || emB x) /\ Only g w w':=by
 obtain ⟨A,cap,hb,hc1,hc0,hc2,hc3⟩:=h
 rcases hc3 with hc3 | ⟨s,off,cs,rfl,hs,hcs⟩
 . cases hc3
 have d0:w.cell? ⟨s,off,none⟩ = some (.string x):=by
  rw [hs.cell];exact hcs 0 (by simp)
 have hne:s ≠ g:=fun e=>by subst e; unfold Blk at hs hb; rw [hs] at hb; injection hb with hb; injection hb with _ hb; exact absurd hb (by decide)
 have HS:=Lib.hid hs;have HCS:=Lib.hid hcs;have HNE:=Lib.hid hne;obtain ⟨N,hN⟩:∃ N,(x :: ws).length = N:=⟨_,rfl⟩;have HN:=Lib.hid hN;have hN1:N = ws.length + 1:=by rw [<- hN]; rfl
 rw [hN] at hb hc1 hc0;have c0:=hb.cell 0;simp only [Go.Tw.gA,Go.Tw.gB,Go.Tw.gC] at c0;have HB:=Lib.hid hb;have hn0:((N:Int) == 0) = false:=by rw [beq_eq_false_iff_ne]; omega
 have hn1:(0:Int) < N:=by omega
 have hn2:(1:Int) <= N:=by omega
 have hn3:(N:Int) <= cap:=by omega
 clear hb hs hcs hne hN;clear hN1
 by_cases hcap:cap = 1
 . skip
   go_enter Tryz.func134,Tryz.ntmps134;go_upto_region 6 with (refine Q0o rfl _ _ 72 rfl Tryz.Y2b (u:=.slice (some ⟨s,off,none⟩) (N - 1) 0) (g:=g) (k:=0) rfl rfl rfl rfl HB.out (by show 0 < 2; omega) ?_; intro w2 hb2 hl2 ho2; refine halted ?_)
   have HO:Hid (Only g w w2):=Lib.hid ⟨hl2,ho2⟩;have HB2:=Lib.hid hb2;have c1:=hb2.cell 1;have HS2:Hid (Blk w2 s 9 cs):=Lib.hid (HS.out.only HNE.out ho2);simp only [List.getElem?_toArray,List.getElem?_cons_zero,List.getElem?_cons_succ,List.setIfInBounds_toArray,List.set_cons_zero] at c1;clear hb2 hl2 ho2 c0 d0;unfold Q2t;have fin:∀ (w3:World) (q:Bool),Blk w3 g 202 (#[.slice (some ⟨s,off,none⟩) N cap,.bool b].setIfInBounds 0 (.slice (some ⟨s,off,none⟩) (N - 1) 0) |>.setIfInBounds 1 (.bool q)) -> Only g w2 w3 -> Rd w3 g ws q /\ Only g w w3:=by
    intro w3 q hb3 ho3;refine ⟨⟨_,_,by rw [<- (show N - 1 = ws.length by rw [<- HN.out]; rfl)]; exact hb3,by have:=HN.out; simp only [List.length_cons] at this; omega,by have:=HN.out; simp only [List.length_cons] at this; omega,by omega,?_⟩,HO.out.trans ho3⟩
    left
    have:=HN.out;simp only [List.length_cons] at this;exact List.length_eq_zero_iff.1 (by omega)
   have FIN:=Lib.hid fin;clear fin;cases b with
   | true =>
     go_wp2_with (refine Q0o rfl _ _ 4 rfl Tryz.X6m (u:=.bool true) (g:=g) (k:=1) rfl rfl rfl rfl HB2.out (by show 1 < 2; omega) ?_; intro w3 hb3 hl3 ho3; refine halted ?_)
     have h:=FIN.out _ true hb3 ⟨hl3,ho3⟩;have HF:=Lib.hid h;clear hb3 hl3 ho3 h c1;unfold Q2t;go_wp2;go_ret;exact ⟨rfl,HF.out.1,HF.out.2⟩
   | false =>
     by_cases hx:x.toList = []
     . have hq:emB x = true:=X8x.2 hx
       have HQ:=Lib.hid hq;go_wp2_with (refine Q0o rfl _ _ 4 rfl Tryz.X6m (u:=.bool true) (g:=g) (k:=1) rfl rfl rfl rfl HB2.out (by show 1 < 2; omega) ?_; intro w3 hb3 hl3 ho3; refine halted ?_)
       have h:=FIN.out _ true hb3 ⟨hl3,ho3⟩;have HF:=Lib.hid h;clear hb3 hl3 ho3 h c1;unfold Q2t;go_wp2;go_ret;exact ⟨rfl,by rw [HQ.out]; exact HF.out.1,HF.out.2⟩
     . have HNX:=Lib.hid hx
       have hq:emB x = false:=by rw [<- Bool.not_eq_true,X8x]; exact hx
       have HQ:=Lib.hid hq;go_wp2_with (refine Q0o rfl _ _ 4 rfl Tryz.X6m (u:=.bool x.toList.isEmpty) (g:=g) (k:=1) rfl rfl rfl rfl HB2.out (by show 1 < 2; omega) ?_; intro w3 hb3 hl3 ho3; refine halted ?_)
       have h:=FIN.out _ false (by rw [show x.toList.isEmpty = false from by rw [List.isEmpty_eq_false_iff]; exact HNX.out] at hb3; exact hb3) ⟨hl3,ho3⟩
       have HF:=Lib.hid h;clear hb3 hl3 ho3 h c1;unfold Q2t;go_wp2;go_ret;exact ⟨rfl,by rw [HQ.out]; exact HF.out.1,HF.out.2⟩
 . skip
   go_enter Tryz.func134,Tryz.ntmps134;go_upto_region 6 with (refine Q0o rfl _ _ 72 rfl Tryz.Y2b (u:=.slice (some ⟨s,off + 1,none⟩) (N - 1) (cap - 1)) (g:=g) (k:=0) rfl rfl rfl rfl HB.out (by show 0 < 2; omega) ?_; intro w2 hb2 hl2 ho2; refine halted ?_)
   have HO:Hid (Only g w w2):=Lib.hid ⟨hl2,ho2⟩;have HB2:=Lib.hid hb2;have c1:=hb2.cell 1;have HS2:Hid (Blk w2 s 9 cs):=Lib.hid (HS.out.only HNE.out ho2);simp only [List.getElem?_toArray,List.getElem?_cons_zero,List.getElem?_cons_succ,List.setIfInBounds_toArray,List.set_cons_zero] at c1;clear hb2 hl2 ho2 c0 d0;unfold Q2t;have fin:∀ (w3:World) (q:Bool),Blk w3 g 202 (#[.slice (some ⟨s,off,none⟩) N cap,.bool b].setIfInBounds 0 (.slice (some ⟨s,off + 1,none⟩) (N - 1) (cap - 1)) |>.setIfInBounds 1 (.bool q)) -> Only g w2 w3 -> Rd w3 g ws q /\ Only g w w3:=by
    intro w3 q hb3 ho3;refine ⟨⟨_,_,by rw [<- (show N - 1 = ws.length by rw [<- HN.out]; rfl)]; exact hb3,by have:=HN.out; simp only [List.length_cons] at this; omega,by have:=HN.out; simp only [List.length_cons] at this; omega,by omega,?_⟩,HO.out.trans ho3⟩
    refine .inr ⟨s,off + 1,cs,rfl,HS2.out.only HNE.out ho3.2,fun k h=>?_⟩;have:=HCS.out (k + 1) (by simpa using h)
    rw [List.getElem_cons_succ] at this;rw [show off + 1 + k = off + (k + 1) by omega]
    exact this
   have FIN:=Lib.hid fin;clear fin;cases b with
   | true =>
     go_wp2_with (refine Q0o rfl _ _ 4 rfl Tryz.X6m (u:=.bool true) (g:=g) (k:=1) rfl rfl rfl rfl HB2.out (by show 1 < 2; omega) ?_; intro w3 hb3 hl3 ho3; refine halted ?_)
     have h:=FIN.out _ true hb3 ⟨hl3,ho3⟩;have HF:=Lib.hid h;clear hb3 hl3 ho3 h c1;unfold Q2t;go_wp2;go_ret;exact ⟨rfl,HF.out.1,HF.out.2⟩
   | false =>
     by_cases hx:x.toList = []
     . have hq:emB x = true:=X8x.2 hx
       have HQ:=Lib.hid hq;go_wp2_with (refine Q0o rfl _ _ 4 rfl Tryz.X6m (u:=.bool true) (g:=g) (k:=1) rfl rfl rfl rfl HB2.out (by show 1 < 2; omega) ?_; intro w3 hb3 hl3 ho3; refine halted ?_)
       have h:=FIN.out _ true hb3 ⟨hl3,ho3⟩;have HF:=Lib.hid h;clear hb3 hl3 ho3 h c1;unfold Q2t;go_wp2;go_ret;exact ⟨rfl,by rw [HQ.out]; exact HF.out.1,HF.out.2⟩
     . have HNX:=Lib.hid hx
       have hq:emB x = false:=by rw [<- Bool.not_eq_true,X8x]; exact hx
       have HQ:=Lib.hid hq;go_wp2_with (refine Q0o rfl _ _ 4 rfl Tryz.X6m (u:=.bool x.toList.isEmpty) (g:=g) (k:=1) rfl rfl rfl rfl HB2.out (by show 1 < 2; omega) ?_; intro w3 hb3 hl3 ho3; refine halted ?_)
       have h:=FIN.out _ false (by rw [show x.toList.isEmpty = false from by rw [List.isEmpty_eq_false_iff]; exact HNX.out] at hb3; exact hb3) ⟨hl3,ho3⟩
       have HF:=Lib.hid h;clear hb3 hl3 ho3 h c1;unfold Q2t;go_wp2;go_ret;exact ⟨rfl,by rw [HQ.out]; exact HF.out.1,HF.out.2⟩
end Go.Proofs
namespace Go.Proofs
open Go.RowKit Go.Tw Go.Flow
def Y0g (w:World) (L:List (ByteArray × Int × Value)) (l:List (ByteArray × Int × List Int)):Prop :=
 L.length = l.length /\ ∀ i (h1:i < L.length) (h2:i < l.length),L[i].1 = l[i].1 /\ L[i].2.1 = l[i].2.1 /\ Q0s w 0 3 (.int .i64) L[i].2.2 l[i].2.2
theorem Y0g.nil (w:World):Y0g w [] []:=⟨rfl,fun _ h=>absurd h (Nat.not_lt_zero _)⟩
theorem Y0g.ext {w w':World} {L:List (ByteArray × Int × Value)} {l:List (ByteArray × Int × List Int)} (h:Y0g w L l) (hx:Ext w w'):Y0g w' L l :=
 ⟨h.1,fun i h1 h2=>⟨(h.2 i h1 h2).1,(h.2 i h1 h2).2.1,(h.2 i h1 h2).2.2.below hx⟩⟩
theorem Y0g.keep {T:TypeId} {w w':World} {L:List (ByteArray × Int × Value)} {l:List (ByteArray × Int × List Int)} (h:Y0g w L l) (hT:3 ≠ T) (hk:Keep T w w'):Y0g w' L l :=
 ⟨h.1,fun i h1 h2=>⟨(h.2 i h1 h2).1,(h.2 i h1 h2).2.1,X2e (h.2 i h1 h2).2.2 hT hk⟩⟩
theorem Y0g.snoc {w:World} {L:List (ByteArray × Int × Value)} {l:List (ByteArray × Int × List Int)} (h:Y0g w L l) (n:ByteArray) (c:Int) {m:Value} {xs:List Int} (hm:Q0s w 0 3 (.int .i64) m xs):Y0g w (L ++ [(n,c,m)]) (l ++ [(n,c,xs)]):=by
 refine ⟨by simp [h.1],fun i h1 h2=>?_⟩
 by_cases hi:i < L.length
 . rw [List.getElem_append_left hi,List.getElem_append_left (by rw [<- h.1]; exact hi)]
   exact h.2 i hi (by rw [<- h.1]; exact hi)
 . have e:i = L.length:=by simp at h1; omega
   subst e;have e2:L.length = l.length:=h.1;simp only [List.getElem_concat_length];have e3:(l ++ [(n,c,xs)])[L.length] = (n,c,xs):=by simp [e2]
   rw [e3];exact ⟨rfl,rfl,hm⟩
theorem Y0g.set {w:World} {L:List (ByteArray × Int × Value)} {l:List (ByteArray × Int × List Int)} (h:Y0g w L l) {i:Nat} (_hi:i < L.length) (n:ByteArray) (c:Int) {m:Value} {xs:List Int} (hm:Q0s w 0 3 (.int .i64) m xs):Y0g w (L.set i (n,c,m)) (l.set i (n,c,xs)):=by
 refine ⟨by simp [h.1],fun j h1 h2=>?_⟩
 have hj:j < L.length:=by simpa using h1
 have hj2:j < l.length:=by simpa using h2
 by_cases e:i = j
 . subst e
   simp only [List.getElem_set_self,true_and];exact hm
 . rw [List.getElem_set_ne e,List.getElem_set_ne e]
   exact h.2 j hj hj2
def Z8l (c:Q9i):ByteArray × Int × List Int:=(c.name,c.chance,c.members)
def Z8v (g:Gate):ByteArray × Int × List Int:=(g.kind,g.need,g.inputs)
theorem Y0g.causes {w:World} {base:Nat} {T:TypeId} {v:Value} {L:List (ByteArray × Int × Value)} {l:List Q9i} (h:Y0g w L (l.map Z8l)) (ho:Q1o w base T 3 enc3 v L) (hl:l.length <= 1000) (hs:∀ i,i < l.length -> Short (cName l i) /\ (Q0f l i).length <= 17592186043904):Q3n w v l:=by
 have hlen:L.length = l.length:=by rw [h.1,List.length_map]
 refine ho.rowsOf hlen (by omega) Q0u (fun j h1 h2=>?_) (fun c c' x hc h=>?_)
 . obtain ⟨e1,e2,e3⟩:=h.2 j h1 (by rw [List.length_map]; exact h2)
   have hsj:=hs j h2;have e:l.getD j default = l[j]:=getD_at h2;unfold cName Q0f at hsj;rw [e] at hsj;simp only [List.getElem_map,Z8l] at e1 e2 e3;refine ⟨?_,?_,?_,hsj.1⟩
   . show Value.string L[j].1 = _; rw [e1]
   . show Value.int .i64 L[j].2.1 = _; rw [e2]
   . exact e3.ints hsj.2
 . obtain ⟨h1,h2,h3,h4⟩:=h
   exact ⟨by rw [<- hc 0 (by omega)]; exact h1,by rw [<- hc 1 (by omega)]; exact h2,by rw [<- hc 2 (by omega)]; exact h3,h4⟩
theorem Y0g.gates {w:World} {base:Nat} {T:TypeId} {v:Value} {L:List (ByteArray × Int × Value)} {l:List Gate} (h:Y0g w L (l.map Z8v)) (ho:Q1o w base T 3 enc3 v L) (hl:l.length <= 1000) (hs:∀ i,i < l.length -> Short (Q2f l i) /\ (Q0m l i).length <= 17592186043904):Q4b w v l:=by
 have hlen:L.length = l.length:=by rw [h.1,List.length_map]
 refine ho.rowsOf hlen (by omega) Q0u (fun j h1 h2=>?_) (fun c c' x hc h=>?_)
 . obtain ⟨e1,e2,e3⟩:=h.2 j h1 (by rw [List.length_map]; exact h2)
   have hsj:=hs j h2;have e:l.getD j default = l[j]:=getD_at h2;unfold Q2f Q0m at hsj;rw [e] at hsj;simp only [List.getElem_map,Z8v] at e1 e2 e3;refine ⟨?_,?_,?_,hsj.1⟩
   . show Value.string L[j].1 = _; rw [e1]
   . show Value.int .i64 L[j].2.1 = _; rw [e2]
   . exact e3.ints hsj.2
 . obtain ⟨h1,h2,h3,h4⟩:=h
   exact ⟨by rw [<- hc 0 (by omega)]; exact h1,by rw [<- hc 1 (by omega)]; exact h2,by rw [<- hc 2 (by omega)]; exact h3,h4⟩
end Go.Proofs
namespace Go.Proofs
open Go.RowKit Go.Tw Go.Flow
theorem Y7n {α:Type} {w w':World} {base k:Nat} {e:TypeId} {enc:α -> List Value} {v:Value} {l:List α} (h:Q1o w base e k enc v l) (hg:w.grownBy w' v.ownBlock):Keep e w w':=fun b S cs hS hb=>by
 have hne:some b ≠ v.ownBlock:=by
  intro e1
  rcases h.2 with ⟨rfl,_⟩ | ⟨g,cap,cur,rfl,_,hgl,_⟩
  . cases e1
  . injection e1 with e1
    subst e1;unfold Blk at hb;rw [hb] at hgl;injection hgl with hgl;injection hgl with _ h3 _;exact hS h3
 unfold Blk at hb ⊢;rw [hg.block b (Array.getElem?_eq_some_iff.1 hb).1 hne];exact hb
def Z1i {α:Type} (w:World) (M:Nat) (e:TypeId) (k:Nat) (enc:α -> List Value) (v:Value) (l:List α):Prop :=
 Q1o w M e k enc v l ∨ (Q1o w 0 e k enc v l /\ ∃ b,v = .slice b l.length l.length)
theorem Z1i.own {α:Type} {w:World} {M k:Nat} {e:TypeId} {enc:α -> List Value} {v:Value} {l:List α} (h:Z1i w M e k enc v l):Q1o w 0 e k enc v l:=by
 rcases h with h | h
 . exact X5h h (Nat.zero_le _)
 . exact h.1
theorem Z1i.shape {α:Type} {w:World} {M k:Nat} {e:TypeId} {enc:α -> List Value} {v:Value} {l:List α} (h:Z1i w M e k enc v l):∃ b c,v = .slice b l.length c /\ l.length <= c:=h.own.shape
theorem Z1i.keep {α:Type} {T:TypeId} {w w':World} {M k:Nat} {e:TypeId} {enc:α -> List Value} {v:Value} {l:List α} (h:Z1i w M e k enc v l) (hT:e ≠ T) (hk:Keep T w w'):Z1i w' M e k enc v l:=by
 rcases h with h | h
 . exact .inl (Q1m h hT hk)
 . exact .inr ⟨Q1m h.1 hT hk,h.2⟩
theorem Z1i.ext {α:Type} {w w':World} {M k:Nat} {e:TypeId} {enc:α -> List Value} {v:Value} {l:List α} (h:Z1i w M e k enc v l) (hx:Ext w w'):Z1i w' M e k enc v l:=by
 rcases h with h | h
 . exact .inl (h.below hx)
 . exact .inr ⟨h.1.below hx,h.2⟩
theorem Q4h {α:Type} {P:Program} {K:Value -> World -> Prop} {o:Oper} {a:Act} {w:World} (s x:Operand) (t:TypeId) (ho:o.op = .call { callee:=.builtin .append,args:=#[s,x],argTypes:=#[t,t] })
    (M:Nat) (e:TypeId) (i:TypeInfo) (z:Value) (k bytes:Nat) (ht:P.underlying t = some (.slice e)) (hi:P.info? e = some i) (hz:i.zero = some z) (hsize:i.size = k) (hby:i.bytes = bytes) (hzs:z.cells.size = k) (hk0:0 < k)
    (enc:α -> List Value) (hk:∀ x,(enc x).length = k) (v:Value) (xs:List α) (y:α) (hs:a.eval s = v) (hown:Z1i w M e k enc v xs) (ad:Addr) (hx:a.eval x = .slice (some ad) 1 1)
    (hA:∀ j u,(enc y)[j]? = some u -> w.cell? (ad.add j) = some u) (h1:∀ u ∈ enc y,u.oneCell' = true)
    (h63:xs.length <= 99999) (hb:bytes <= 1000) (hM:M <= w.heap.size)
    (h:∀ v' w',Q1o w' M e k enc v' (xs ++ [y]) -> Keep e w w' -> Below M w w' -> K v' w'):gives P K ((execOp a.eval o).run P w):=by
 have hfl:[y].flatMap enc = enc y:=by simp
 rcases hown with hown | ⟨hown,b,rfl⟩
 . refine X6t s x t ho M e i z k bytes ht hi hz hsize hby hzs hk0 enc hk v xs [y] hs hown (some ad) 1 hx (fun _=>⟨ad,rfl,by rw [hfl]; exact hA⟩) (by rw [hfl]; exact h1) (by show xs.length + 1 <= 100000; omega) hb hM ?_
   intro v' w' h2 hg;exact h v' w' h2 (Y7n hown hg) (Below.grown (Below.refl _ _) hg hM fun j hj=>(hown.lt j hj).1)
 . have hbytes:(xs.length + 1) * bytes <= 140737488355328:=by
    have:(xs.length + 1) * bytes <= 100000 * 1000:=Nat.mul_le_mul (by omega) hb
    omega
   have fin:∀ v' w',(Builtin.append_ #[t,t] o.type #[.slice b xs.length xs.length,.slice (some ad) 1 1]).run P w = .ok v' w' -> w'.ownsRow w.heap.size e k v' (xs.length + 1) (xs.flatMap enc ++ enc y) -> w.grownBy w' none -> gives P K ((execOp a.eval o).run P w):=by
    intro v' w' hr h2 h3;unfold execOp;simp only [ho,resolve,invoke,builtin,Sem.run_bind,Sem.run_pure,Result.andThen_ok,List.map_toArray,List.map_cons,List.map_nil,hs,hx,hr];refine h v' w' (X5h (Q1o.snoc h2) hM) (fun b' S cs _ hb'=>?_) (Below.grown (Below.refl _ _) h3 hM fun j hj=>by cases hj)
    unfold Blk at hb' ⊢;rw [h3.block b' (Array.getElem?_eq_some_iff.1 hb').1 (fun e=>by cases e)]
    exact hb'
   rcases hown.2 with ⟨h0,hn⟩ | ⟨g,cap,cur,hv,hbg,hgl,hc,hm,hcs,htk⟩
   . have e0:xs = []:=List.eq_nil_of_length_eq_zero hn
     subst e0;have e1:b = none:=by injection h0
     subst e1;obtain ⟨v',w',hr,h2,h3,_⟩:=run_append_own (P:=P) w w.heap.size t o.type e i z k bytes ht hi hz hsize hby hzs hk0 (.slice none 0 0) 0 [] (World.ownsRow_nil w _ e k) ad 1 1 (enc y) (by rw [hk,Nat.one_mul]) hA h1 (by unfold maxLen; omega) (by simpa using hbytes) (Nat.le_refl _)
     exact fin v' w' hr (by simpa using h2) h3
   . cases hv
     have hlen:(xs.flatMap enc).length = xs.length * k:=Q9q hk xs;obtain ⟨v',w',hr,h2,h3⟩:=run_append_arg_grows (P:=P) (w:=w) t o.type e i z k bytes ht hi hz hsize hby hzs hk0 ⟨g,0,none⟩ xs.length xs.length (xs.flatMap enc) hlen (fun j u hj=>by
      rw [addr_add,Nat.zero_add,Blk.cell hgl];have h5:=congrArg (fun l=>l[j]?) htk;have hjl:j < xs.length * k:=by rw [<- hlen]; exact (List.getElem?_eq_some_iff.1 hj).1
      rw [List.getElem?_take,if_pos hjl] at h5;rw [<- hj,<- h5,Array.getElem?_toList]) ad 1 1 (enc y) (by rw [hk,Nat.one_mul]) hA (by omega) (by unfold maxLen; omega) hbytes
     exact fin v' w' hr h2 h3
end Go.Proofs
