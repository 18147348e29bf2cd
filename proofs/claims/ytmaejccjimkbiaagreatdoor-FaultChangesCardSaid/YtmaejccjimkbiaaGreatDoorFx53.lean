/- Contract of the law's tree: true when both say the same. The dual of a tree without causes: it is valid, its dual is the tree, its weight is what is left of the whole, its cuts are the paths. Plain law for FaultDuals. What is read of a result whatever becomes of the blocks of one type; what the law FaultChanges asks of the three trees. Contracts: the reference's Critical; the law's 'when' and 'event'. Contracts: the law's 'when' and 'event'. -/
import Derived.Test.YtmaejccjimkbiaaGreatDoorFx47
import Derived.Test.YtmaejccjimkbiaaGreatDoorFx52
import Derived.Test.YtmaejccjimkbiaaGreatDoorFx36
import Derived.Test.YtmaejccjimkbiaaGreatDoorFx50
import Derived.Test.YtmaejccjimkbiaaGreatDoorFx49
import Derived.Test.YtmaejccjimkbiaaGreatDoorFx51
import Derived.Test.YtmaejccjimkbiaaGreatDoorFx46
import Derived.Test.YtmaejccjimkbiaaGreatDoorFx43
import Derived.Test.YtmaejccjimkbiaaGreatDoorFx09
import Derived.Test.YtmaejccjimkbiaaGreatDoorFx28
import Derived.Test.YtmaejccjimkbiaaGreatDoorFx22
import Derived.Test.YtmaejccjimkbiaaGreatDoorFx23
import Derived.Test.YtmaejccjimkbiaaGreatDoorFx24
import Derived.Test.YtmaejccjimkbiaaGreatDoorFx26
import Derived.Test.YtmaejccjimkbiaaGreatDoorFx17
import Derived.Test.YtmaejccjimkbiaaGreatDoorFx27
import Derived.Test.YtmaejccjimkbiaaGreatDoorFx41
set_option linter.unusedVariables false
set_option linter.unusedSimpArgs false
set_option linter.constructorNameAsVariable false
namespace Go.Proofs
open Go.RowKit Go.Tw Go.Flow
set_option linter.unusedSimpArgs false in
set_option maxRecDepth 100000 in
set_option maxHeartbeats 4000000 in
theorem Z2n (w:World) (u v:Value) (T:Tree) (hu:IsTree w u T) (hv:IsTree w v T) (hf:Few T) :
    Calls Tryz.prog 44 #[u,.int .i64 0,.int .i64 0,v] w fun e w'=>e = .returned (.bool true) ∧ Ext w w':=by
 obtain ⟨a1,a2,a3,rfl,hu0⟩:=hu;obtain ⟨A,capa,rfl,_,_,_⟩:=hu0.basics.opened;obtain ⟨B,capb,rfl,_,_,_⟩:=hu0.causes.opened;obtain ⟨G,capg,rfl,_,_,_⟩:=hu0.gates.opened;obtain ⟨c1,c2,c3,rfl,hv0⟩:=hv;obtain ⟨C,capc,rfl,_,_,_⟩:=hv0.basics.opened;obtain ⟨D,capd,rfl,_,_,_⟩:=hv0.causes.opened;obtain ⟨E,cape,rfl,_,_,_⟩:=hv0.gates.opened;have HU0:=Lib.hid hu0;have HV0:=Lib.hid hv0;have HF:=Lib.hid hf;clear hu0 hv0 hf;go_enter Tryz.func44,Tryz.ntmps44;go_upto_region 3 with fail;change Code.wp _ _ _ _ ((w.alloc (.cells #[.slice A T.basics.length capa,.slice B T.causes.length capb,.slice G T.gates.length capg] 37)).alloc (.cells #[.slice C T.basics.length capc,.slice D T.causes.length capd,.slice E T.gates.length cape] 26));have k0:=Blk.made w 37 #[.slice A T.basics.length capa,.slice B T.causes.length capb,.slice G T.gates.length capg];have x0:=Ext.box w (.cells #[.slice A T.basics.length capa,.slice B T.causes.length capb,.slice G T.gates.length capg] 37);have es0:(w.alloc (.cells #[.slice A T.basics.length capa,.slice B T.causes.length capb,.slice G T.gates.length capg] 37)).heap.size = w.heap.size + 1:=by simp
 obtain ⟨X0,hX0⟩:∃ X,w.alloc (.cells #[.slice A T.basics.length capa,.slice B T.causes.length capb,.slice G T.gates.length capg] 37) = X:=⟨_,rfl⟩;rw [hX0] at k0 x0 es0 ⊢;clear hX0;have k1:=Blk.made X0 26 #[.slice C T.basics.length capc,.slice D T.causes.length capd,.slice E T.gates.length cape];have x1:=Ext.box X0 (.cells #[.slice C T.basics.length capc,.slice D T.causes.length capd,.slice E T.gates.length cape] 26);have es1:(X0.alloc (.cells #[.slice C T.basics.length capc,.slice D T.causes.length capd,.slice E T.gates.length cape] 26)).heap.size = X0.heap.size + 1:=by simp
 obtain ⟨X1,hX1⟩:∃ X,X0.alloc (.cells #[.slice C T.basics.length capc,.slice D T.causes.length capd,.slice E T.gates.length cape] 26) = X:=⟨_,rfl⟩;rw [hX1] at k1 x1 es1 ⊢;clear hX1;replace k0:=k0.ext x1;have e0:X0.heap.size = w.heap.size + 1:=by omega
 have e1:X1.heap.size = w.heap.size + 1 + 1:=by omega
 rw [e0] at k1;have HXW:Hid (Ext w X1):=by exact (Ext.trans (x0) x1:Ext w X1)
 have eW:X1.heap.size = w.heap.size + 1 + 1:=e1;clear x0 es0 e0 x1 es1 e1;obtain ⟨W,hWW⟩:∃ W,X1 = W:=⟨_,rfl⟩;rw [hWW] at HXW eW ⊢ k0 k1;clear hWW;have HU:=Lib.hid (HU0.out.ext HXW.out);have HV:=Lib.hid (HV0.out.ext HXW.out);have K0:=Lib.hid k0;have K1:=Lib.hid k1;have hdr:=(Ext.refl W).drew;clear k0 k1;refine Flow.Q3g [.plain,.plain,.plain,.plain,.world,.world,.world,.world,.plain,.plain] [0,1,2,3,4,5,6,7,8,9] [[],[],[0,1],[2],[3],[3,4],[3],[3,5,6],[3,7],[0,1,2,3,4,5,6,7,8]]
  [.is 0 (fun v=>.int .i64 0),.is 1 (fun v=>.int .i64 0),.is 2 (fun v=>.bool true),.is 3 (fun v=>.bool true),.is 4 (fun v=>.agg #[.slice A T.basics.length capa,.slice B T.causes.length capb,.slice G T.gates.length capg]),⟨fun v wz=>IsTree wz (v 5) T,fun _ _ _ hx h=>h.ext hx⟩,.is 6 (fun v=>.agg #[.slice C T.basics.length capc,.slice D T.causes.length capd,.slice E T.gates.length cape]),.is 7 (fun v=>.bool true),.is 8 (fun v=>.bool true),.is 9 (fun v=>.bool true)]
  (by kernel_rfl) rfl (by kernel_rfl) ⟨?g0,?g1,?g2,?g3,?g4,?g5,?g6,?g7,?g8,?g9,trivial⟩ ?post
 case g0 =>
  intro v w1 hx;intro bb hbb;subst hbb;refine ⟨_,fun w=>?_,rfl⟩;go_simp
 case g1 =>
  intro v w1 hx;intro bb hbb;subst hbb;refine ⟨_,fun w=>?_,rfl⟩;go_simp
 case g2 =>
  intro v w1 hx (q0:v 0 = .int .i64 0) (q1:v 1 = .int .i64 0);intro bb hbb;subst hbb;refine ⟨_,fun w=>?_,rfl⟩;go_simp
 case g3 =>
  intro v w1 hx (q2:v 2 = .bool true);intro bb hbb;subst hbb;refine ⟨_,fun w=>?_,rfl⟩;go_simp
 case g4 =>
  intro v w1 hx (q3:v 3 = .bool true);intro bb hbb;refine Flow.Q0g (d:=15) rfl rfl (by rw [hbb]; simp only [size_put]; exact (by decide:15 < 21)) (by rw [hbb]; dsimp only; (try simp (discharger:=decide) only [eval_put_ne]); rw [Q0a (by simp only [size_put]; exact (by decide:15 < 21))]; exact q3) ?_
  intro K2 hK2;have o1:bb.eval (.tmp 4) = .pointer (some ⟨w.heap.size,0,none⟩):=by rw [hbb]; dsimp only; (try simp (discharger:=decide) only [eval_put_ne]); rfl
  exact Q0n (.tmp 4) _ rfl Tryz.Q2v Tryz.Q0w o1 (K0.out.ext (hdr.trans hx)) rfl (hK2 _ _ (Ext.refl _) rfl)
 case g5 =>
  intro v w1 hx (q3:v 3 = .bool true) (q4:v 4 = .agg #[.slice A T.basics.length capa,.slice B T.causes.length capb,.slice G T.gates.length capg]);intro bb hbb;refine Flow.Q0g (d:=15) rfl rfl (by rw [hbb]; simp only [size_put]; exact (by decide:15 < 21)) (by rw [hbb]; dsimp only; (try simp (discharger:=decide) only [eval_put_ne]); rw [Q0a (by simp only [size_put]; exact (by decide:15 < 21))]; exact q3) ?_
  subst hbb;intro K hK;go_simp;refine Q0e (Y3y w1 _ T ⟨_,_,_,rfl,HU.out.ext (hdr.trans hx)⟩ HF.out.b HF.out.c HF.out.g) ?_;rintro e w2 ⟨x,rfl,h,hx2⟩;exact ⟨_,rfl,hK _ _ hx2 h⟩
 case g6 =>
  intro v w1 hx (q3:v 3 = .bool true);intro bb hbb;refine Flow.Q0g (d:=15) rfl rfl (by rw [hbb]; simp only [size_put]; exact (by decide:15 < 21)) (by rw [hbb]; dsimp only; (try simp (discharger:=decide) only [eval_put_ne]); rw [Q0a (by simp only [size_put]; exact (by decide:15 < 21))]; exact q3) ?_
  intro K2 hK2;have o1:bb.eval (.tmp 7) = .pointer (some ⟨w.heap.size + 1,0,none⟩):=by rw [hbb]; dsimp only; (try simp (discharger:=decide) only [eval_put_ne]); rfl
  exact Q0n (.tmp 7) _ rfl Tryz.Q2g Tryz.Q0x o1 (K1.out.ext (hdr.trans hx)) rfl (hK2 _ _ (Ext.refl _) rfl)
 case g7 =>
  intro v w1 hx (q3:v 3 = .bool true) (q5:IsTree w1 (v 5) T) (q6:v 6 = .agg #[.slice C T.basics.length capc,.slice D T.causes.length capd,.slice E T.gates.length cape]);intro bb hbb;refine Flow.Q0g (d:=15) rfl rfl (by rw [hbb]; simp only [size_put]; exact (by decide:15 < 21)) (by rw [hbb]; dsimp only; (try simp (discharger:=decide) only [eval_put_ne]); rw [Q0a (by simp only [size_put]; exact (by decide:15 < 21))]; exact q3) ?_
  subst hbb;intro K hK;go_simp;refine Q0e (Y8h w1 _ _ T q5 ⟨_,_,_,rfl,HV.out.ext (hdr.trans hx)⟩) ?_;rintro e w2 ⟨rfl,hx2⟩;exact ⟨_,rfl,hK _ _ hx2 rfl⟩
 case g8 =>
  intro v w1 hx (q3:v 3 = .bool true) (q7:v 7 = .bool true);intro bb hbb;subst hbb;refine ⟨_,fun w=>?_,rfl⟩;go_simp
 case g9 =>
  intro v w1 hx (q0:v 0 = .int .i64 0) (q1:v 1 = .int .i64 0) (q2:v 2 = .bool true) (q3:v 3 = .bool true) (q4:v 4 = .agg #[.slice A T.basics.length capa,.slice B T.causes.length capb,.slice G T.gates.length capg]) (q5:IsTree w1 (v 5) T) (q6:v 6 = .agg #[.slice C T.basics.length capc,.slice D T.causes.length capd,.slice E T.gates.length cape]) (q7:v 7 = .bool true) (q8:v 8 = .bool true);intro bb hbb;subst hbb;refine ⟨_,fun w=>?_,rfl⟩;go_simp
 case post =>
  intro v w1 hx (q0:v 0 = .int .i64 0) (q1:v 1 = .int .i64 0) (q2:v 2 = .bool true) (q3:v 3 = .bool true) (q4:v 4 = .agg #[.slice A T.basics.length capa,.slice B T.causes.length capb,.slice G T.gates.length capg]) (q5:IsTree w1 (v 5) T) (q6:v 6 = .agg #[.slice C T.basics.length capc,.slice D T.causes.length capd,.slice E T.gates.length cape]) (q7:v 7 = .bool true) (q8:v 8 = .bool true) (q9:v 9 = .bool true);simp only [Flow.All,Flow.acts,Act.put];go_simp;go_wp2;go_ret;exact ⟨rfl,HXW.out.trans (hdr.trans hx)⟩
set_option linter.unusedSimpArgs false in
set_option maxRecDepth 100000 in
set_option maxHeartbeats 4000000 in
theorem Y9r (w:World) (u v:Value) (T:Tree) (bad:Int) (hb:bad ≠ 0) (hu:IsTree w u ⟨[],[],[]⟩) (hv:IsTree w v T) :
    Calls Tryz.prog 44 #[u,.int .i64 bad,.int .i64 bad,v] w fun e w'=>e = .returned (.bool true) ∧ Ext w w':=by
 obtain ⟨a1,a2,a3,rfl,hu0⟩:=hu;obtain ⟨A,capa,rfl,_,_,_⟩:=hu0.basics.opened;obtain ⟨B,capb,rfl,_,_,_⟩:=hu0.causes.opened;obtain ⟨G,capg,rfl,_,_,_⟩:=hu0.gates.opened;obtain ⟨c1,c2,c3,rfl,hv0⟩:=hv;obtain ⟨C,capc,rfl,_,_,_⟩:=hv0.basics.opened;obtain ⟨D,capd,rfl,_,_,_⟩:=hv0.causes.opened;obtain ⟨E,cape,rfl,_,_,_⟩:=hv0.gates.opened;have HU0:=Lib.hid hu0;have hbne:(bad != 0) = true:=by simp [hb]
 clear hu0 hv0 hb;go_enter Tryz.func44,Tryz.ntmps44;go_upto_region 1 with fail;change Code.wp _ _ _ _ ((w.alloc (.cells #[.slice A 0 capa,.slice B 0 capb,.slice G 0 capg] 37)).alloc (.cells #[.slice C T.basics.length capc,.slice D T.causes.length capd,.slice E T.gates.length cape] 26));have k0:=Blk.made w 37 #[.slice A 0 capa,.slice B 0 capb,.slice G 0 capg];have x0:=Ext.box w (.cells #[.slice A 0 capa,.slice B 0 capb,.slice G 0 capg] 37);have es0:(w.alloc (.cells #[.slice A 0 capa,.slice B 0 capb,.slice G 0 capg] 37)).heap.size = w.heap.size + 1:=by simp
 obtain ⟨X0,hX0⟩:∃ X,w.alloc (.cells #[.slice A 0 capa,.slice B 0 capb,.slice G 0 capg] 37) = X:=⟨_,rfl⟩;rw [hX0] at k0 x0 es0 ⊢;clear hX0;have k1:=Blk.made X0 26 #[.slice C T.basics.length capc,.slice D T.causes.length capd,.slice E T.gates.length cape];have x1:=Ext.box X0 (.cells #[.slice C T.basics.length capc,.slice D T.causes.length capd,.slice E T.gates.length cape] 26);have es1:(X0.alloc (.cells #[.slice C T.basics.length capc,.slice D T.causes.length capd,.slice E T.gates.length cape] 26)).heap.size = X0.heap.size + 1:=by simp
 obtain ⟨X1,hX1⟩:∃ X,X0.alloc (.cells #[.slice C T.basics.length capc,.slice D T.causes.length capd,.slice E T.gates.length cape] 26) = X:=⟨_,rfl⟩;rw [hX1] at k1 x1 es1 ⊢;clear hX1;replace k0:=k0.ext x1;have e0:X0.heap.size = w.heap.size + 1:=by omega
 have e1:X1.heap.size = w.heap.size + 1 + 1:=by omega
 rw [e0] at k1;have HXW:Hid (Ext w X1):=by exact (Ext.trans (x0) x1:Ext w X1)
 have eW:X1.heap.size = w.heap.size + 1 + 1:=e1;clear x0 es0 e0 x1 es1 e1;obtain ⟨W,hWW⟩:∃ W,X1 = W:=⟨_,rfl⟩;rw [hWW] at HXW eW ⊢ k0 k1;clear hWW;have HU:=Lib.hid (HU0.out.ext HXW.out);have K0:=Lib.hid k0;have K1:=Lib.hid k1;clear k0 k1;go_upto_region 3 with (refine Q0d rfl _ _ 26 rfl Tryz.Q0x rfl rfl K1.out rfl rfl ?_ ?_; (focus (intro u hu; simp only [List.mem_cons,List.not_mem_nil,or_false] at hu; rcases hu with rfl | rfl | rfl <;> rfl)); intro w8 hb8 hl8 ho8; refine halted ?_)
 have KU:=Lib.hid (K0.out.only (by omega) ho8)
 have KV:=Lib.hid hb8;have HX8:Hid (Ext w w8):=by exact (Below.trans HXW.out (hl8 _ (by omega)):Ext w w8)
 have HU8:Hid (IsTree w8 (.agg #[.slice A 0 capa,.slice B 0 capb,.slice G 0 capg]) ⟨[],[],[]⟩):=by exact (⟨_,_,_,rfl,HU0.out.ext HX8.out⟩:IsTree w8 (.agg #[.slice A 0 capa,.slice B 0 capb,.slice G 0 capg]) ⟨[],[],[]⟩)
 clear hb8 hl8 ho8 K0 K1 HU;have hdr:=(Ext.refl w8).drew;unfold Q3f;go_upto_region 3 with fail;refine Flow.Q3g [.plain,.plain,.plain,.plain,.world,.world,.world,.world,.plain,.plain] [0,1,2,3,4,5,6,7,8,9] [[],[],[0,1],[2],[3],[3,4],[3],[3,5,6],[3,7],[0,1,2,3,4,5,6,7,8]]
  [.is 0 (fun v=>.int .i64 bad),.is 1 (fun v=>.int .i64 bad),.is 2 (fun v=>.bool true),.is 3 (fun v=>.bool true),.is 4 (fun v=>.agg #[.slice A 0 capa,.slice B 0 capb,.slice G 0 capg]),⟨fun v wz=>IsTree wz (v 5) ⟨[],[],[]⟩,fun _ _ _ hx h=>h.ext hx⟩,.is 6 (fun v=>.agg #[.slice none 0 0,.slice none 0 0,.slice none 0 0]),.is 7 (fun v=>.bool true),.is 8 (fun v=>.bool true),.is 9 (fun v=>.bool true)]
  (by kernel_rfl) rfl (by kernel_rfl) ⟨?g0,?g1,?g2,?g3,?g4,?g5,?g6,?g7,?g8,?g9,trivial⟩ ?post
 case g0 =>
  intro v w1 hx;intro bb hbb;subst hbb;refine ⟨_,fun w=>?_,rfl⟩;go_simp
 case g1 =>
  intro v w1 hx;intro bb hbb;subst hbb;refine ⟨_,fun w=>?_,rfl⟩;go_simp
 case g2 =>
  intro v w1 hx (q0:v 0 = .int .i64 bad) (q1:v 1 = .int .i64 bad);intro bb hbb;subst hbb;refine ⟨_,fun w=>?_,rfl⟩;go_simp
 case g3 =>
  intro v w1 hx (q2:v 2 = .bool true);intro bb hbb;subst hbb;refine ⟨_,fun w=>?_,rfl⟩;go_simp
 case g4 =>
  intro v w1 hx (q3:v 3 = .bool true);intro bb hbb;refine Flow.Q0g (d:=15) rfl rfl (by rw [hbb]; simp only [size_put]; exact (by decide:15 < 21)) (by rw [hbb]; dsimp only; (try simp (discharger:=decide) only [eval_put_ne]); rw [Q0a (by simp only [size_put]; exact (by decide:15 < 21))]; exact q3) ?_
  intro K2 hK2;have o1:bb.eval (.tmp 4) = .pointer (some ⟨w.heap.size,0,none⟩):=by rw [hbb]; dsimp only; (try simp (discharger:=decide) only [eval_put_ne]); rfl
  exact Q0n (.tmp 4) _ rfl Tryz.Q2v Tryz.Q0w o1 (KU.out.ext (hdr.trans hx)) rfl (hK2 _ _ (Ext.refl _) rfl)
 case g5 =>
  intro v w1 hx (q3:v 3 = .bool true) (q4:v 4 = .agg #[.slice A 0 capa,.slice B 0 capb,.slice G 0 capg]);intro bb hbb;refine Flow.Q0g (d:=15) rfl rfl (by rw [hbb]; simp only [size_put]; exact (by decide:15 < 21)) (by rw [hbb]; dsimp only; (try simp (discharger:=decide) only [eval_put_ne]); rw [Q0a (by simp only [size_put]; exact (by decide:15 < 21))]; exact q3) ?_
  subst hbb;intro K hK;go_simp;refine Q0e (Y3y w1 _ ⟨[],[],[]⟩ (HU8.out.ext (hdr.trans hx)) (Nat.zero_le _) (Nat.zero_le _) (Nat.zero_le _)) ?_;rintro e w2 ⟨x,rfl,h,hx2⟩;exact ⟨_,rfl,hK _ _ hx2 h⟩
 case g6 =>
  intro v w1 hx (q3:v 3 = .bool true);intro bb hbb;refine Flow.Q0g (d:=15) rfl rfl (by rw [hbb]; simp only [size_put]; exact (by decide:15 < 21)) (by rw [hbb]; dsimp only; (try simp (discharger:=decide) only [eval_put_ne]); rw [Q0a (by simp only [size_put]; exact (by decide:15 < 21))]; exact q3) ?_
  intro K2 hK2;have o1:bb.eval (.tmp 7) = .pointer (some ⟨w.heap.size + 1,0,none⟩):=by rw [hbb]; dsimp only; (try simp (discharger:=decide) only [eval_put_ne]); rfl
  exact Q0n (.tmp 7) _ rfl Tryz.Q2g Tryz.Q0x o1 (KV.out.ext (hdr.trans hx)) rfl (hK2 _ _ (Ext.refl _) rfl)
 case g7 =>
  intro v w1 hx (q3:v 3 = .bool true) (q5:IsTree w1 (v 5) ⟨[],[],[]⟩) (q6:v 6 = .agg #[.slice none 0 0,.slice none 0 0,.slice none 0 0]);intro bb hbb;refine Flow.Q0g (d:=15) rfl rfl (by rw [hbb]; simp only [size_put]; exact (by decide:15 < 21)) (by rw [hbb]; dsimp only; (try simp (discharger:=decide) only [eval_put_ne]); rw [Q0a (by simp only [size_put]; exact (by decide:15 < 21))]; exact q3) ?_
  subst hbb;intro K hK;go_simp;refine Q0e (Y8h w1 _ _ ⟨[],[],[]⟩ q5 (Q7a _)) ?_;rintro e w2 ⟨rfl,hx2⟩;exact ⟨_,rfl,hK _ _ hx2 rfl⟩
 case g8 =>
  intro v w1 hx (q3:v 3 = .bool true) (q7:v 7 = .bool true);intro bb hbb;subst hbb;refine ⟨_,fun w=>?_,rfl⟩;go_simp
 case g9 =>
  intro v w1 hx (q0:v 0 = .int .i64 bad) (q1:v 1 = .int .i64 bad) (q2:v 2 = .bool true) (q3:v 3 = .bool true) (q4:v 4 = .agg #[.slice A 0 capa,.slice B 0 capb,.slice G 0 capg]) (q5:IsTree w1 (v 5) ⟨[],[],[]⟩) (q6:v 6 = .agg #[.slice none 0 0,.slice none 0 0,.slice none 0 0]) (q7:v 7 = .bool true) (q8:v 8 = .bool true);intro bb hbb;subst hbb;refine ⟨_,fun w=>?_,rfl⟩;go_simp
 case post =>
  intro v w1 hx (q0:v 0 = .int .i64 bad) (q1:v 1 = .int .i64 bad) (q2:v 2 = .bool true) (q3:v 3 = .bool true) (q4:v 4 = .agg #[.slice A 0 capa,.slice B 0 capb,.slice G 0 capg]) (q5:IsTree w1 (v 5) ⟨[],[],[]⟩) (q6:v 6 = .agg #[.slice none 0 0,.slice none 0 0,.slice none 0 0]) (q7:v 7 = .bool true) (q8:v 8 = .bool true) (q9:v 9 = .bool true);simp only [Flow.All,Flow.acts,Act.put];go_simp;go_wp2;go_ret;exact ⟨rfl,HX8.out.trans (hdr.trans hx)⟩
end Go.Proofs
namespace Go.Proofs
open Go.Tw
theorem Y0t (t:Tree):(X4v t).gates.length = t.gates.length:=by simp [X4v]
end Go.Proofs
namespace Go.Proofs
open Go.RowKit Go.Tw Go.Flow
def Keep (T:TypeId) (w w':World):Prop:=∀ b S cs,S ≠ T → Blk w b S cs → Blk w' b S cs
theorem Keep.trans {T:TypeId} {a b c:World} (h:Keep T a b) (k:Keep T b c):Keep T a c:=fun x S cs hS hb=>k x S cs hS (h x S cs hS hb)
theorem Keep.ext {T:TypeId} {w w':World} (h:Ext w w'):Keep T w w':=fun _ _ _ _ hb=>hb.ext h
theorem Keep.store {T:TypeId} {w w':World} {g:Nat} {cs:Array Value} (hb:Blk w g T cs) (ho:∀ k,k ≠ g → w'.heap[k]? = w.heap[k]?):Keep T w w':=fun _ _ _ hS h=>h.only (Q1i h hb hS) ho
def X4t (T:TypeId) (w:World) (v:Value) (t:Tree):Prop:=∀ w',Keep T w w' → IsTree w' v t
theorem X4t.keep {T:TypeId} {w w':World} {v:Value} {t:Tree} (h:X4t T w v t) (k:Keep T w w'):X4t T w' v t:=fun _ h'=>h _ (k.trans h')
theorem X4t.ext {T:TypeId} {w w':World} {v:Value} {t:Tree} (h:X4t T w v t) (k:Ext w w'):X4t T w' v t:=h.keep (.ext k)
theorem X4t.is {T:TypeId} {w:World} {v:Value} {t:Tree} (h:X4t T w v t):IsTree w v t:=h _ (.ext (Ext.refl _))
theorem X5t {α:Type} {T:TypeId} {w w':World} {base k:Nat} {e:TypeId} {enc:α → List Value} {v:Value} {l:List α} (h:Q1z w base e k enc v l) (hT:e ≠ T) (hk:Keep T w w'):Q1z w' base e k enc v l:=by
 obtain ⟨h1,h2⟩:=h;refine ⟨h1,?_⟩
 rcases h2 with h2 | ⟨g,cap,cur,hv,hb,hg,r⟩
 · exact .inl h2
 · exact .inr ⟨g,cap,cur,hv,hb,hk g e cur hT hg,r⟩
theorem X6k {T:TypeId} {w w':World} {v:Value} {l:List Int} (h:Q0q w 0 3 (.int .i64) v l) (hT:3 ≠ T) (hk:Keep T w w'):Q0q w' 0 3 (.int .i64) v l:=by
 obtain ⟨h1,h2⟩:=h;refine ⟨h1,?_⟩
 rcases h2 with h2 | ⟨g,cap,cur,hv,hb,hg,r⟩
 · exact .inl h2
 · exact .inr ⟨g,cap,cur,hv,hb,hk g _ cur hT hg,r⟩
theorem Y6w.Z6b {w w0:World} {base:Nat} {t:Tree} {a b c vb vc vg:Value} {mc mg:Nat → Value} (h:Y6w w base t vb vc vg mc mg) (ht:Q6u w0 a b c t):X4t 26 w (.agg #[vb,vc,vg]) t:=fun w' hk =>
 ⟨_,_,_,rfl,(Y6w.tree (w:=w') ⟨X5t h.bas (by decide) hk,X5t h.cau (by decide) hk,X5t h.gat (by decide) hk,fun i hi=>X6k (h.mem i hi) (by decide) hk,fun i hi=>X6k (h.inp i hi) (by decide) hk⟩ ht)⟩
theorem X2g (T:TypeId) (w:World):X4t T w Z4o ⟨[],[],[]⟩:=fun _ _=>Q7a _
theorem _root_.Go.Tw.IsTree.cells {w:World} {v:Value} {t:Tree} (h:IsTree w v t):∃ cs,v = .agg cs ∧ cs.size = 3 ∧ ∀ u ∈ cs.toList,u.oneCell' = true:=by
 obtain ⟨a,b,c,rfl,h3⟩:=h;obtain ⟨A,capa,rfl,_⟩:=h3.basics.opened;obtain ⟨B,capb,rfl,_⟩:=h3.causes.opened;obtain ⟨G,capg,rfl,_⟩:=h3.gates.opened;refine ⟨_,rfl,rfl,?_⟩;intro u hu;simp only [List.mem_cons,List.not_mem_nil,or_false] at hu
 rcases hu with rfl | rfl | rfl <;> rfl
theorem X2a (w:World) (u v:Value) (D X:Tree) (E:Int) (hu:IsTree w u D) (hv:IsTree w v X) (h0:E = 0 → X = D ∧ Few D) (h1:E ≠ 0 → D = ⟨[],[],[]⟩) :
    Calls Tryz.prog 44 #[u,.int .i64 E,.int .i64 E,v] w fun e w'=>e = .returned (.bool true) ∧ Ext w w':=by
 by_cases hE:E = 0
 · subst hE
   obtain ⟨rfl,hf⟩:=h0 rfl;exact Z2n w u v X hu hv hf
 · obtain rfl:=h1 hE
   exact Y9r w u v X E hE hu hv
theorem X5k {t:Tree} {n c:Int} (h:Q4o t n c = 0):t.err = 0 ∧ 0 ≤ n ∧ n < t.size:=by
 unfold Q4o at h;rw [Q1k] at h;have h1:=h (Q0i t [n]) (by simp)
 unfold Q0i at h1
 by_cases he:t.err = 0
 · rw [if_pos he] at h1
   exact ⟨he,(Q2n h1).1 n (by simp)⟩
 · rw [if_neg he] at h1; exact absurd h1 he
theorem X3i {t:Tree} {k:Int} (h:Q1r t k = 0):t.err = 0 ∧ 0 ≤ k ∧ k < t.causes.length:=by
 unfold Q1r at h;rw [Q1k] at h;refine ⟨h t.err (by simp),?_⟩
 have h1:=h (Q0k (decide (k < 0) || decide ((t.causes.length:Int) ≤ k)) 10) (by simp)
 unfold Q0k at h1
 by_cases h2:k < 0
 · simp [h2] at h1
 · by_cases h3:(t.causes.length:Int) ≤ k
   · simp [h3] at h1
   · omega
theorem Y5b {t:Tree} (h:Few t) (k:Nat) (c:Int) (_hk:k < t.basics.length + t.causes.length):Few (Q3c t k c):=by
 unfold Q3c
 by_cases hb:k < t.basics.length
 · rw [if_pos hb]
   exact ⟨by show (t.basics.set k _).length ≤ 1000; rw [List.length_set]; exact h.b,h.c,h.g,h.m,h.i⟩
 · rw [if_neg hb]
   refine ⟨h.b,by show (t.causes.set _ _).length ≤ 1000; rw [List.length_set]; exact h.c,h.g,fun j hj=>?_,h.i⟩
   have hj':j < t.causes.length:=by rw [← List.length_set (i:=k - t.basics.length)]; exact hj
   show (Q0c (t.causes.set _ _) j).length ≤ 1000;unfold Q0c;rw [Q6y _ _ _ _ hj']
   split
   · exact h.m _ (by omega)
   · exact h.m j hj'
theorem Y2p {t:Tree} (h:Few t) (k:Nat) (hk:k < t.causes.length):Few ⟨t.basics,t.causes.eraseIdx k,t.gates⟩:=by
 have hl:(t.causes.eraseIdx k).length = t.causes.length - 1:=List.length_eraseIdx_of_lt hk;refine ⟨h.b,by show (t.causes.eraseIdx k).length ≤ 1000; have:=h.c; omega,h.g,fun j hj=>?_,h.i⟩
 have hj':j < (t.causes.eraseIdx k).length:=hj;show (Q0c (t.causes.eraseIdx k) j).length ≤ 1000;unfold Q0c;rw [X0a _ _ _ hj']
 split
 · exact h.m _ (by omega)
 · exact h.m _ (by omega)
theorem Z0f {t:Tree} (h:Few t):Few (X4v t):=by
 refine ⟨by show (t.basics.map X1n).length ≤ 1000; rw [List.length_map]; exact h.b,h.c,by rw [Y0t]; exact h.g,h.m,fun k hk=>?_⟩
 rw [Y0t] at hk;show (Q0l (t.gates.map Q6g) k).length ≤ 1000;have e:Q0l (t.gates.map Q6g) k = Q0l t.gates k:=by
  unfold Q0l;rw [getD_at (by simpa using hk),getD_at hk,List.getElem_map]
  unfold Q6g
  split <;> (try split) <;> rfl
 rw [e];exact h.i k hk
theorem X1x {t:Tree}:(t.err ≠ 0 → Q3s t = t.err ∧ Q7y t = ⟨[],[],[]⟩) ∧ (t.err = 0 → 0 < t.causes.length → Q3s t = 19 ∧ Q7y t = ⟨[],[],[]⟩) ∧ (t.err = 0 → t.causes = [] → Q3s t = 0 ∧ Q7y t = X4v t):=by
 refine ⟨fun h=>?_,fun h hc=>?_,fun h hc=>?_⟩
 · have e:Q3s t = t.err:=by unfold Q3s; simp [Q0h,h]
   refine ⟨e,?_⟩;unfold Q7y;rw [if_neg (by rw [e]; exact h)]
 · have e:Q3s t = 19:=by unfold Q3s; rw [h,decide_eq_true hc]; rfl
   refine ⟨e,?_⟩;unfold Q7y;rw [if_neg (by rw [e]; decide)]
 · have e:Q3s t = 0:=by unfold Q3s; rw [h,hc]; rfl
   refine ⟨e,?_⟩;unfold Q7y;rw [if_pos e];rfl
theorem Y5x {T:TypeId} {w w':World} {v:Value} (h:IsTree w v ⟨[],[],[]⟩):X4t T w' v ⟨[],[],[]⟩:=fun wz _=>by
 obtain ⟨a,b,c,rfl,h3⟩:=h;obtain ⟨A,capa,rfl,_⟩:=h3.basics.opened;obtain ⟨B,capb,rfl,_⟩:=h3.causes.opened;obtain ⟨G,capg,rfl,_⟩:=h3.gates.opened;exact ⟨_,_,_,rfl,⟨⟨fun _=>undef,⟨_,_,rfl,Nat.zero_le _,Nat.zero_le _,fun j hj=>by simp at hj⟩,fun j hj=>by simp at hj⟩,
  ⟨fun _=>undef,⟨_,_,rfl,Nat.zero_le _,Nat.zero_le _,fun j hj=>by simp at hj⟩,fun j hj=>by simp at hj⟩,
  ⟨fun _=>undef,⟨_,_,rfl,Nat.zero_le _,Nat.zero_le _,fun j hj=>by simp at hj⟩,fun j hj=>by simp at hj⟩⟩⟩
theorem Z4k (w:World) (v:Value) (t:Tree) (ht:IsTree w v t) (he:t.err = 0) (hf:Few t) :
    Calls Tryz.prog 41 #[v] w fun e w'=>∃ cs,e = .returned (.tuple #[.agg cs,.int .i64 (Q3s t)]) ∧ cs.size = 3 ∧ (∀ u ∈ cs.toList,u.oneCell' = true) ∧ X4t 26 w' (.agg cs) (Q7y t) ∧ Ext w w':=by
 by_cases hc:0 < t.causes.length
 · obtain ⟨h1,h2⟩:=X1x.2.1 he hc
   rw [h1,h2];refine (Y1y w v t ht hc).mono ?_;rintro e w' ⟨u,rfl,hu,hx⟩;obtain ⟨cs,rfl,h3,h4⟩:=hu.cells;exact ⟨cs,rfl,h3,h4,Y5x hu,hx⟩
 · have hc0:t.causes = []:=List.eq_nil_of_length_eq_zero (by omega)
   obtain ⟨h1,h2⟩:=X1x.2.2 he hc0;rw [h1,h2];refine (Y8p w v t ht he hc0 hf).mono ?_;rintro e w' ⟨vb,vc,vg,mc,mg,rfl,ho,hi,hx⟩;obtain ⟨cs,h2,h3,h4⟩:=IsTree.cells ⟨_,_,_,rfl,hi⟩;cases h2;exact ⟨_,rfl,h3,h4,ho.Z6b hi,hx⟩
theorem Z1g (w:World) (v:Value) (t:Tree) (n c:Int) (ht:IsTree w v t) (h:Q4o t n c = 0) (hf:Few t) :
    Calls Tryz.prog 42 #[v,.int .i64 n,.int .i64 c] w fun e w'=>∃ cs,e = .returned (.agg cs) ∧ cs.size = 3 ∧ (∀ u ∈ cs.toList,u.oneCell' = true) ∧ X4t 26 w' (.agg cs) (Q4t t n c) ∧ Ext w w':=by
 obtain ⟨he,h0,h1⟩:=X5k h;obtain ⟨k,rfl⟩:∃ k:Nat,n = k:=⟨n.toNat,by omega⟩
 have e:Q4t t (k:Int) c = Q3c t k c:=by unfold Q4t; rw [if_pos h]; rfl
 rw [e];refine (Y3l w v t k c ht he (by unfold Tree.size at h1; omega) hf).mono ?_
 rintro e w' ⟨vb,vc,vg,mc,mg,rfl,ho,hi,hx⟩;obtain ⟨cs,h2,h3,h4⟩:=IsTree.cells ⟨_,_,_,rfl,hi⟩;cases h2;exact ⟨_,rfl,h3,h4,ho.Z6b hi,hx⟩
theorem Y8b (w:World) (v:Value) (t:Tree) (n:Int) (ht:IsTree w v t) (h:Q1r t n = 0) (hf:Few t) :
    Calls Tryz.prog 43 #[v,.int .i64 n] w fun e w'=>∃ cs,e = .returned (.agg cs) ∧ cs.size = 3 ∧ (∀ u ∈ cs.toList,u.oneCell' = true) ∧ X4t 26 w' (.agg cs) (Q2t t n) ∧ Ext w w':=by
 obtain ⟨he,h0,h1⟩:=X3i h;obtain ⟨k,rfl⟩:∃ k:Nat,n = k:=⟨n.toNat,by omega⟩
 have e:Q2t t (k:Int) = ⟨t.basics,t.causes.eraseIdx k,t.gates⟩:=by unfold Q2t; rw [if_pos h]; rfl
 rw [e];refine (X9i w v t k ht he (by omega) hf).mono ?_
 rintro e w' ⟨vb,vc,vg,mc,mg,rfl,ho,hi,hx⟩;obtain ⟨cs,h2,h3,h4⟩:=IsTree.cells ⟨_,_,_,rfl,hi⟩;cases h2;exact ⟨_,rfl,h3,h4,ho.Z6b hi,hx⟩
theorem Y7j {t:Tree} (hf:Few t) (h:Q3s t = 0):Few (Q7y t):=by
 unfold Q7y;rw [if_pos h];exact Z0f hf
theorem Y3e {t:Tree} {n c:Int} (hf:Few t) (h:Q4o t n c = 0):Few (Q4t t n c):=by
 obtain ⟨_,h0,h1⟩:=X5k h;unfold Q4t;rw [if_pos h];exact Y5b hf _ _ (by unfold Tree.size at h1; omega)
theorem X9p {t:Tree} {n:Int} (hf:Few t) (h:Q1r t n = 0):Few (Q2t t n):=by
 obtain ⟨_,h0,h1⟩:=X3i h;unfold Q2t;rw [if_pos h];exact Y2p hf _ (by omega)
theorem Z0y {t:Tree} (h:Q3s t ≠ 0):Q7y t = ⟨[],[],[]⟩:=by unfold Q7y; rw [if_neg h]
theorem Y4x {t:Tree} {n c:Int} (h:Q4o t n c ≠ 0):Q4t t n c = ⟨[],[],[]⟩:=by unfold Q4t; rw [if_neg h]
theorem Y1h {t:Tree} {k:Int} (h:Q1r t k ≠ 0):Q2t t k = ⟨[],[],[]⟩:=by unfold Q2t; rw [if_neg h]
end Go.Proofs
namespace Go.Proofs
open Go.RowKit Go.Tw Go.Flow
def Y8o (w:World) (v:Value) (nc:Bool) (l:List Int):Prop:=nc = false → Q0f w v l
theorem Y8o.ext {w w':World} {v:Value} {nc:Bool} {l:List Int} (h:Y8o w v nc l) (hx:Ext w w'):Y8o w' v nc l:=fun hn=>(h hn).ext hx
end Go.Proofs
namespace Go.Proofs
open Go.RowKit Go.Tw Go.Flow
theorem Q8f (w:World) (b:Bool) (x:Int) :
    Calls Tryz.prog 40 #[.bool b,.int .i64 x] w fun e w'=>e = .returned (.int .i64 (if b then x else 0)) ∧ w = w':=by
 go_enter Tryz.func40,Tryz.ntmps40;cases b <;> go_wp2 <;> go_ret <;> exact ⟨rfl,rfl⟩
theorem Y8u (t:Tree) (n:Int):Q0i t [n] = Q0h [t.err,if decide (n < 0) || decide ((t.size:Int) ≤ n) then 10 else 0]:=by
 unfold Q0i Q1h Y7s;simp only [Q0h,List.any_cons,List.any_nil,Bool.or_false,X5x,Bool.decide_or]
 by_cases he:t.err = 0
 · rw [if_pos he,if_pos he]
   generalize (decide (n < 0) || decide ((t.size:Int) ≤ n)) = b
   cases b <;> rfl
 · rw [if_neg he,if_neg he]
set_option maxRecDepth 100000 in
set_option maxHeartbeats 4000000 in
theorem Y7d (w:World) (v:Value) (t:Tree) (n:Int) (ht:IsTree w v t) :
    Calls Tryz.prog 38 #[v,.int .i64 n] w fun e w'=>e = .returned (.int .i64 (Q0i t [n])) ∧ Ext w w':=by
 have HE:=Lib.hid (Y8u t n);obtain ⟨a,b,c,rfl,h3⟩:=ht;obtain ⟨A,capa,rfl,hl1,hcap1,_⟩:=h3.basics.opened;obtain ⟨B,capb,rfl,hl2,hcap2,_⟩:=h3.causes.opened;obtain ⟨G,capg,rfl,hl3,hcap3,_⟩:=h3.gates.opened;have HT0:=Lib.hid h3;clear h3;go_enter Tryz.func38,Tryz.ntmps38;go_wp2_with fail;change Calls _ _ _ (w.alloc (.cells #[.slice A t.basics.length capa,.slice B t.causes.length capb,.slice G t.gates.length capg] 26)) _;have k0:=Blk.made w 26 #[.slice A t.basics.length capa,.slice B t.causes.length capb,.slice G t.gates.length capg];have x0:=Ext.box w (.cells #[.slice A t.basics.length capa,.slice B t.causes.length capb,.slice G t.gates.length capg] 26);have es0:(w.alloc (.cells #[.slice A t.basics.length capa,.slice B t.causes.length capb,.slice G t.gates.length capg] 26)).heap.size = w.heap.size + 1:=by simp
 obtain ⟨X0,hX0⟩:∃ X,w.alloc (.cells #[.slice A t.basics.length capa,.slice B t.causes.length capb,.slice G t.gates.length capg] 26) = X:=⟨_,rfl⟩;rw [hX0] at k0 x0 es0 ⊢;clear hX0;have e0:X0.heap.size = w.heap.size + 1:=by omega
 have HXW:Hid (Ext w X0):=by exact (x0:Ext w X0)
 have eW:X0.heap.size = w.heap.size + 1:=e0;clear x0 es0 e0;obtain ⟨W,hWW⟩:∃ W,X0 = W:=⟨_,rfl⟩;rw [hWW] at HXW eW ⊢ k0;clear hWW;have HT:=Lib.hid (HT0.out.ext HXW.out);have K0:=Lib.hid k0;clear k0;refine (Q7t _ _ t ⟨_,_,_,rfl,HT.out⟩).mono ?_;rintro e wa ⟨rfl,hx1⟩;have HX1:=Lib.hid hx1;have HKX:=Lib.hid (K0.out.ext hx1);obtain ⟨E,hE⟩:∃ x,t.err = x:=⟨_,rfl⟩;rw [hE] at HE ⊢;clear hx1 hE
 by_cases hn:n < 0
 · have hd:decide (n < 0) = true:=by simp [hn]
   rw [hd,Bool.true_or,if_pos rfl] at HE;clear hd;go_wp2_with fail;refine (Q8f _ _ _).mono ?_;rintro e wb ⟨rfl,rfl⟩;go_wp2_with fail;refine (Q6e _ _ [E,10] (Q2m (l:=[E,10]) (by simp))).mono ?_
   rintro e wc ⟨rfl,rfl⟩;go_wp2;go_ret;exact ⟨by first | (rw [HE.out]; done) | (rw [HE.out]; rfl) | (rw [HE.out]; simp; done),(HXW.out.trans HX1.out).trans (Ext.box _ _)⟩
 · have hd:decide (n < 0) = false:=by simp [hn]
   rw [hd,Bool.false_or] at HE;have d0:=HKX.out.cell 0;have d1:=HKX.out.cell 1;have d2:=HKX.out.cell 2;simp only [List.getElem?_toArray,List.getElem?_cons_zero,List.getElem?_cons_succ] at d0 d1 d2;clear hd;go_wp2_with fail;refine (X3y _ _ t ⟨_,_,_,rfl,HT.out.ext HX1.out⟩).mono ?_;rintro e wb ⟨rfl,hx2⟩;have HX2:=Lib.hid (HX1.out.trans hx2);clear hx2 d0 d1 d2
   by_cases hs:(t.size:Int) ≤ n
   · have hd:decide ((t.size:Int) ≤ n) = true:=by simp [hs]
     rw [hd,if_pos rfl] at HE;clear hd;go_wp2_with fail;refine (Q8f _ _ _).mono ?_;rintro e wc ⟨rfl,rfl⟩;go_wp2_with fail;refine (Q6e _ _ [E,10] (Q2m (l:=[E,10]) (by simp))).mono ?_
     rintro e wd ⟨rfl,rfl⟩;go_wp2;go_ret;exact ⟨by first | (rw [HE.out]; done) | (rw [HE.out]; rfl) | (rw [HE.out]; simp; done),(HXW.out.trans HX2.out).trans (Ext.box _ _)⟩
   · have hd:decide ((t.size:Int) ≤ n) = false:=by simp [hs]
     rw [hd,if_neg (by decide)] at HE
     clear hd;go_wp2_with fail;refine (Q8f _ _ _).mono ?_;rintro e wc ⟨rfl,rfl⟩;go_wp2_with fail;refine (Q6e _ _ [E,0] (Q2m (l:=[E,0]) (by simp))).mono ?_
     rintro e wd ⟨rfl,rfl⟩;go_wp2;go_ret;exact ⟨by first | (rw [HE.out]; done) | (rw [HE.out]; rfl) | (rw [HE.out]; simp; done),(HXW.out.trans HX2.out).trans (Ext.box _ _)⟩
end Go.Proofs
