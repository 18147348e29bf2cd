/- What an argument of two numbers reads as. The law FaultChanges: for every input the call returns true, and each argument reads afterwards as before: the row's statement, and its tied card. The listed tables of math/bits and strconv are as the program's text lays them. -/
import Derived.Test.YtmaejccjimkbiaaGreatDoorFx45
import Derived.Deep.DeepCutAuto
import Derived.Test.YtmaejccjimkbiaaGreatDoorFx46
import Derived.Test.YtmaejccjimkbiaaGreatDoorFx53
import Derived.Test.YtmaejccjimkbiaaGreatDoorFx38
import Derived.Test.YtmaejccjimkbiaaGreatDoorFx01
import Derived.OpenShut
import Derived.Test.YtmaejccjimkbiaaGreatDoorFx18
set_option linter.unusedVariables false
set_option linter.unusedSimpArgs false
set_option linter.constructorNameAsVariable false
namespace Go.Proofs
open Go.RowKit Go.Tw Go.Flow
theorem Q5w {P:Program} {o:Oper} {a:Act} (x:Operand) (i:Nat) (ho:o.op = .extract x i) {vs:Array Value} {u:Value} (hx:a.eval x = .tuple vs) (hv:vs[i]? = some u) (w:World):(execOp a.eval o).run P w = .ok (.value u) w:=by
 unfold execOp;simp only [ho,hx,Instr.extract,hv,Sem.run_bind,Sem.run_pure,Result.andThen_ok]
theorem X4h {P:Program} {o:Oper} {a:Act} (x:Operand) (ho:o.op = .move x) {u:Value} (hx:a.eval x = u) (w:World):(execOp a.eval o).run P w = .ok (.value u) w:=by
 unfold execOp;simp only [ho,hx,Sem.run_pure]
theorem X1l {cs:Array Value} (h:cs.size = 3):∃ a b c,cs = #[a,b,c]:=by
 obtain ⟨l⟩:=cs
 match l,h with
 | [a,b,c],_=>exact ⟨a,b,c,rfl⟩
theorem Q9d {P:Program} {K:Value → World → Prop} {o:Oper} {a:Act} {w:World} (x:Operand) (ho:o.op = .assign x) {u:Value} (hx:a.eval x = u) (h:K u w):gives P K ((execOp a.eval o).run P w):=by
 unfold execOp;simp only [ho,hx,Sem.run_pure];exact h
set_option linter.unusedSimpArgs false in
set_option maxRecDepth 100000 in
set_option maxHeartbeats 16000000 in
theorem X3s (w:World) (v:Value) (t:Tree) (ya yb:Int) (h0a:-9223372036854775808 ≤ ya) (h0b:ya ≤ 9223372036854775807) (ht:IsTree w v t) (hT:Tab w) :
    Calls Tryz.prog 5 #[v,.agg #[.int .i64 ya,.int .i64 yb]] w fun e w'=>e = .returned (.bool true) ∧ Ext w w':=by
 obtain ⟨a,b,c,rfl,h3⟩:=ht;obtain ⟨A,capa,rfl,hl1,hcap1,_⟩:=h3.basics.opened;obtain ⟨B,capb,rfl,hl2,hcap2,_⟩:=h3.causes.opened;obtain ⟨G,capg,rfl,hl3,hcap3,_⟩:=h3.gates.opened;have HT0:=Lib.hid h3;clear h3;have HTAB:=Lib.hid hT;clear hT;go_enter Tryz.func5,Tryz.ntmps5;go_wp2_with fail;change Calls _ _ _ ((w.alloc (.cells #[.slice A t.basics.length capa,.slice B t.causes.length capb,.slice G t.gates.length capg] 26)).alloc (.cells #[.int .i64 ya,.int .i64 yb] 66)) _;have k0:=Blk.made w 26 #[.slice A t.basics.length capa,.slice B t.causes.length capb,.slice G t.gates.length capg];have x0:=Ext.box w (.cells #[.slice A t.basics.length capa,.slice B t.causes.length capb,.slice G t.gates.length capg] 26);have es0:(w.alloc (.cells #[.slice A t.basics.length capa,.slice B t.causes.length capb,.slice G t.gates.length capg] 26)).heap.size = w.heap.size + 1:=by simp
 obtain ⟨X0,hX0⟩:∃ X,w.alloc (.cells #[.slice A t.basics.length capa,.slice B t.causes.length capb,.slice G t.gates.length capg] 26) = X:=⟨_,rfl⟩;rw [hX0] at k0 x0 es0 ⊢;clear hX0;have k1:=Blk.made X0 66 #[.int .i64 ya,.int .i64 yb];have x1:=Ext.box X0 (.cells #[.int .i64 ya,.int .i64 yb] 66);have es1:(X0.alloc (.cells #[.int .i64 ya,.int .i64 yb] 66)).heap.size = X0.heap.size + 1:=by simp
 obtain ⟨X1,hX1⟩:∃ X,X0.alloc (.cells #[.int .i64 ya,.int .i64 yb] 66) = X:=⟨_,rfl⟩;rw [hX1] at k1 x1 es1 ⊢;clear hX1;replace k0:=k0.ext x1;have e0:X0.heap.size = w.heap.size + 1:=by omega
 have e1:X1.heap.size = w.heap.size + 1 + 1:=by omega
 rw [e0] at k1;have HXW:Hid (Ext w X1):=by exact (Ext.trans (x0) x1:Ext w X1)
 have eW:X1.heap.size = w.heap.size + 1 + 1:=e1;clear x0 es0 e0 x1 es1 e1;obtain ⟨W,hWW⟩:∃ W,X1 = W:=⟨_,rfl⟩;rw [hWW] at HXW eW ⊢ k0 k1;clear hWW;obtain ⟨WB,hWB⟩:∃ X,W = X:=⟨_,rfl⟩;rw [hWB] at HXW eW k0 k1 ⊢;clear hWB;have HT:=Lib.hid (HT0.out.ext HXW.out);have K0:=Lib.hid k0;have KX:=Lib.hid k1;replace HTAB:=Lib.hid (HTAB.out.ext HXW.out);have HW0:=Lib.hid HXW.out;have HX:=Lib.hid (Ext.refl WB);clear k0 k1 HXW
 skip
 refine (Y0r _ HTAB.out).mono ?_;rintro e w1 ⟨rfl,hx⟩;have hxx:Ext WB w1:=hx;replace HX:=Lib.hid (HX.out.trans hxx);replace HTAB:=Lib.hid (HTAB.out.ext hxx);replace K0:=Lib.hid (K0.out.ext hxx);replace KX:=Lib.hid (KX.out.ext hxx);replace HT:=Lib.hid (HT.out.ext hxx);clear hx hxx;have k0_0:=K0.out.cell 0;have k0_1:=K0.out.cell 1;have k0_2:=K0.out.cell 2;simp only [List.getElem?_toArray,List.getElem?_cons_zero,List.getElem?_cons_succ] at k0_0 k0_1 k0_2;go_wp2_with fail;clear k0_0 k0_1 k0_2;refine (short_any _ _ t 8 ⟨_,_,_,rfl,HT.out⟩ (by omega)).mono ?_
 rintro e w2 ⟨q,rfl,hq,hx⟩;have hxx:Ext w1 w2:=hx;replace HX:=Lib.hid (HX.out.trans hxx);replace HTAB:=Lib.hid (HTAB.out.ext hxx);replace K0:=Lib.hid (K0.out.ext hxx);replace KX:=Lib.hid (KX.out.ext hxx);replace HT:=Lib.hid (HT.out.ext hxx);clear hx hxx;cases q with
 | false =>
   clear hq;go_wp2_with fail;refine (Y0r _ HTAB.out).mono ?_;rintro e w3 ⟨rfl,hx⟩;have hxx:Ext w2 w3:=hx;replace HX:=Lib.hid (HX.out.trans hxx);replace HTAB:=Lib.hid (HTAB.out.ext hxx);replace K0:=Lib.hid (K0.out.ext hxx);replace KX:=Lib.hid (KX.out.ext hxx);replace HT:=Lib.hid (HT.out.ext hxx);clear hx hxx;go_wp2;go_ret;exact ⟨rfl,HW0.out.trans HX.out⟩
 | true =>
   have HF:=Lib.hid ((hq rfl).few (by omega))
   clear hq;have k0_0:=K0.out.cell 0;have k0_1:=K0.out.cell 1;have k0_2:=K0.out.cell 2;simp only [List.getElem?_toArray,List.getElem?_cons_zero,List.getElem?_cons_succ] at k0_0 k0_1 k0_2;go_wp2_with fail;clear k0_0 k0_1 k0_2;refine (Y1m _ _ (t) ⟨_,_,_,rfl,HT.out⟩ HF.out).mono ?_;rintro e w3 ⟨uu,rfl,hu,hx⟩;have hxx:Ext w2 w3:=hx;replace HX:=Lib.hid (HX.out.trans hxx);replace HTAB:=Lib.hid (HTAB.out.ext hxx);replace K0:=Lib.hid (K0.out.ext hxx);replace KX:=Lib.hid (KX.out.ext hxx);replace HT:=Lib.hid (HT.out.ext hxx);have HU:=Lib.hid (hu);clear hu;clear hx hxx;go_wp2_with fail;refine (Y0w _ _ t HU.out).mono ?_;rintro e w4 ⟨xd,rfl,hd,hx⟩;have hxx:Ext w3 w4:=hx;replace HX:=Lib.hid (HX.out.trans hxx);replace HTAB:=Lib.hid (HTAB.out.ext hxx);replace K0:=Lib.hid (K0.out.ext hxx);replace KX:=Lib.hid (KX.out.ext hxx);replace HT:=Lib.hid (HT.out.ext hxx);replace HU:=Lib.hid (HU.out.ext hxx);have HD:=Lib.hid (hd);clear hd;clear hx hxx;clear HU;obtain ⟨D1,hD1⟩:∃ D,Q7y t = D:=⟨_,rfl⟩;have HD1:=Lib.hid hD1;rw [hD1] at HD;clear hD1;obtain ⟨E1,hE1⟩:∃ E,Q3s t = E:=⟨_,rfl⟩;have HE1:=Lib.hid hE1;rw [hE1];clear hE1;obtain ⟨y1,y2,y3,rfl,h3⟩:=HD.out;obtain ⟨A5,capA5,rfl,_,_,_⟩:=h3.basics.opened;obtain ⟨B5,capB5,rfl,_,_,_⟩:=h3.causes.opened;obtain ⟨G5,capG5,rfl,_,_,_⟩:=h3.gates.opened;replace HD:=Lib.hid h3;clear h3;have HKN:=Lib.hid (Blk.made w4 37 #[.slice A5 D1.basics.length capA5,.slice B5 D1.causes.length capB5,.slice G5 D1.gates.length capG5]);have hxn:=Ext.box w4 (.cells #[.slice A5 D1.basics.length capA5,.slice B5 D1.causes.length capB5,.slice G5 D1.gates.length capG5] 37);go_upto_region 4 with fail;replace HX:=Lib.hid (HX.out.trans hxn);replace HTAB:=Lib.hid (HTAB.out.ext hxn);replace K0:=Lib.hid (K0.out.ext hxn);replace KX:=Lib.hid (KX.out.ext hxn);replace HT:=Lib.hid (HT.out.ext hxn);replace HD:=Lib.hid (HD.out.ext hxn);have K5:=Lib.hid (HKN.out);clear HKN hxn;obtain ⟨g5,hg5⟩:∃ g,w4.heap.size = g:=⟨_,rfl⟩;rw [hg5] at K5 ⊢;obtain ⟨w5,hww⟩:∃ X,w4.alloc (.cells #[.slice A5 D1.basics.length capA5,.slice B5 D1.causes.length capB5,.slice G5 D1.gates.length capG5] 37) = X:=⟨_,rfl⟩;rw [hww] at HX HTAB K0 KX HT HD K5 ⊢;clear hww hg5;obtain ⟨E2,hE2⟩:∃ E,Q4o t ya yb = E:=⟨_,rfl⟩;have HE2:=Lib.hid hE2;obtain ⟨D2,hD2⟩:∃ E,Q4t t ya yb = E:=⟨_,rfl⟩;have HD2:=Lib.hid hD2;have HPT:Hid (∀ (w:World) (v:Value),IsTree w v t → Calls Tryz.prog 34 #[v,.int .i64 ya,.int .i64 yb] w fun e w'=>∃ u,e = .returned (.tuple #[u,.int .i64 E2]) ∧ Q0v 37 w' u D2 ∧ Ext w w'):=by
    refine Lib.hid (fun w v h=>?_);rw [← hE2,← hD2];exact Y2d w v t ya yb h
   obtain ⟨E3,hE3⟩:∃ E,Q1r t ya = E:=⟨_,rfl⟩;have HE3:=Lib.hid hE3;obtain ⟨D3,hD3⟩:∃ E,Q2t t ya = E:=⟨_,rfl⟩;have HD3:=Lib.hid hD3;have HPW:Hid (∀ (w:World) (v:Value),IsTree w v t → Calls Tryz.prog 35 #[v,.int .i64 ya] w fun e w'=>∃ u,e = .returned (.tuple #[u,.int .i64 E3]) ∧ Q0v 37 w' u D3 ∧ Ext w w'):=by
    refine Lib.hid (fun w v h=>?_);rw [← hE3,← hD3];exact X3b w v t ya h h0a h0b
   clear hE2 hD2 hE3 hD3;have hdr:=(Ext.refl w5).drew;refine Flow.Q3v [.world,.world,.plain,.world,.plain,.world,.world,.plain,.plain,.plain,.world,.last,.last] [0,1,2,3,4,5,6,7,8,9,10,11,12] [[],[0],[],[2],[],[4],[0,1,2,3,4,5],[0,1,2,3,4,5,6],[0,1,2,3,4,5,6,7],[0,1,2,3,4,5,6,7],[],[0,1,2,3,4,5,6,7,8,10],[0,1,2,3,4,5,6,7,8,9,10,11]] [11,12]
    [.is 0 (fun v=>.agg #[.slice A t.basics.length capa,.slice B t.causes.length capb,.slice G t.gates.length capg]),⟨fun v wz=>IsTree wz (v 1) t,fun _ _ _ hx h=>h.ext hx⟩,.is 2 (fun v=>.pointer (some ⟨w.heap.size + 1,0,none⟩)),.is 3 (fun v=>.int .i64 ya),.is 4 (fun v=>.pointer (some ⟨w.heap.size + 1,1,none⟩)),.is 5 (fun v=>.int .i64 yb),⟨fun v wz=>(fun v w'=>∃ u,v 6 = .tuple #[u,.int .i64 E2] ∧ Q0v 37 w' u D2) v wz,by rintro v a b hx ⟨u,h1,h2⟩; exact ⟨u,h1,h2.ext hx⟩⟩,⟨fun v wz=>(fun v w'=>∃ u,v 7 = .tuple #[u,.int .i64 E2] ∧ Q0v 37 w' u D2) v wz,by rintro v a b hx ⟨u,h1,h2⟩; exact ⟨u,h1,h2.ext hx⟩⟩,⟨fun v wz=>(fun v w'=>Q0v 37 w' (v 8) D2) v wz,fun _ _ _ hx h=>Q0v.ext h hx⟩,.is 9 (fun v=>.int .i64 E2),⟨fun v wz=>(fun v w'=>∃ g,v 10 = .pointer (some ⟨g,0,none⟩) ∧ w5.heap.size ≤ g ∧ Blk w' g 37 #[.slice none 0 0,.slice none 0 0,.slice none 0 0]) v wz,by rintro v a b hx ⟨g,h1,h2,h3⟩; exact ⟨g,h1,h2,h3.ext hx⟩⟩,.none,.none]
    [fun v w1 w'=>∃ cs,v 8 = .agg cs ∧ cs.size = 3 ∧ IsTree w' (.agg cs) D2 ∧ ∃ g,v 10 = .pointer (some ⟨g,0,none⟩) ∧ Blk w' g 37 cs ∧ Below w5.heap.size w1 w',fun v w1 w'=>(∃ cs,v 8 = .agg cs ∧ cs.size = 3 ∧ IsTree w' (.agg cs) D2 ∧ ∃ g,v 10 = .pointer (some ⟨g,0,none⟩) ∧ Blk w' g 37 cs ∧ Below w5.heap.size w1 w') ∧ v 12 = .int .i64 E2] (by kernel_rfl) rfl (by kernel_rfl) ⟨?g0,?g1,?g2,?g3,?g4,?g5,?g6,?g7,?g8,?g9,?g10,?g11,?g12,trivial⟩ ?post
   case g0 =>
    intro v w1 hx;intro bb hbb;intro K2 hK2;have o1:bb.eval (.tmp 2) = .pointer (some ⟨w.heap.size,0,none⟩):=by rw [hbb]; dsimp only; (try simp (discharger:=decide) only [eval_put_ne]); rfl
    exact Q0n (.tmp 2) _ rfl Tryz.Q2g Tryz.Q0x o1 (K0.out.ext (hdr.trans hx)) rfl (hK2 _ _ (Ext.refl _) rfl)
   case g1 =>
    intro v w1 hx (q0:v 0 = .agg #[.slice A t.basics.length capa,.slice B t.causes.length capb,.slice G t.gates.length capg]);intro bb hbb;subst hbb;intro K hK;go_simp;refine Q0e (Y1m w1 _ t ⟨_,_,_,rfl,HT.out.ext (hdr.trans hx)⟩ HF.out) ?_;rintro e w2 ⟨x,rfl,h,hx2⟩;exact ⟨_,rfl,hK _ _ hx2 h⟩
   case g2 =>
    intro v w1 hx;intro bb hbb;subst hbb;refine ⟨_,fun w=>?_,rfl⟩;go_simp
   case g3 =>
    intro v w1 hx (q2:v 2 = .pointer (some ⟨w.heap.size + 1,0,none⟩));intro bb hbb;subst hbb;have n0:w1.cell? ⟨w.heap.size + 1,0,none⟩ = some (.int .i64 ya):=(KX.out.ext (hdr.trans hx)).cell 0;intro K hK;go_simp;exact hK _ _ (Ext.refl _) rfl
   case g4 =>
    intro v w1 hx;intro bb hbb;subst hbb;refine ⟨_,fun w=>?_,rfl⟩;go_simp
   case g5 =>
    intro v w1 hx (q4:v 4 = .pointer (some ⟨w.heap.size + 1,1,none⟩));intro bb hbb;subst hbb;have n0:w1.cell? ⟨w.heap.size + 1,1,none⟩ = some (.int .i64 yb):=(KX.out.ext (hdr.trans hx)).cell 1;intro K hK;go_simp;exact hK _ _ (Ext.refl _) rfl
   case g6 =>
    intro v w1 hx (q0:v 0 = .agg #[.slice A t.basics.length capa,.slice B t.causes.length capb,.slice G t.gates.length capg]) (q1:IsTree w1 (v 1) t) (q2:v 2 = .pointer (some ⟨w.heap.size + 1,0,none⟩)) (q3:v 3 = .int .i64 ya) (q4:v 4 = .pointer (some ⟨w.heap.size + 1,1,none⟩)) (q5:v 5 = .int .i64 yb);intro bb hbb;subst hbb;intro K2 hK2;go_simp;refine Q0e (HPT.out w1 _ q1) ?_;rintro e w2 ⟨u,rfl,hu,hx2⟩;exact ⟨_,rfl,hK2 _ _ hx2 ⟨u,rfl,hu⟩⟩
   case g7 =>
    intro v w1 hx (q0:v 0 = .agg #[.slice A t.basics.length capa,.slice B t.causes.length capb,.slice G t.gates.length capg]) (q1:IsTree w1 (v 1) t) (q2:v 2 = .pointer (some ⟨w.heap.size + 1,0,none⟩)) (q3:v 3 = .int .i64 ya) (q4:v 4 = .pointer (some ⟨w.heap.size + 1,1,none⟩)) (q5:v 5 = .int .i64 yb) (q6:(fun v w'=>∃ u,v 6 = .tuple #[u,.int .i64 E2] ∧ Q0v 37 w' u D2) v w1);intro bb hbb;obtain ⟨u,hu,ho⟩:=q6;have o1:bb.eval (.tmp 39) = .tuple #[u,.int .i64 E2]:=by rw [hbb]; dsimp only; (try simp (discharger:=decide) only [eval_put_ne]); rw [Q0a (by simp only [size_put]; exact (by decide:39 < 117))]; exact hu
    exact ⟨_,fun w=>X4h _ rfl o1 w,⟨u,rfl,ho⟩⟩
   case g8 =>
    intro v w1 hx (q0:v 0 = .agg #[.slice A t.basics.length capa,.slice B t.causes.length capb,.slice G t.gates.length capg]) (q1:IsTree w1 (v 1) t) (q2:v 2 = .pointer (some ⟨w.heap.size + 1,0,none⟩)) (q3:v 3 = .int .i64 ya) (q4:v 4 = .pointer (some ⟨w.heap.size + 1,1,none⟩)) (q5:v 5 = .int .i64 yb) (q6:(fun v w'=>∃ u,v 6 = .tuple #[u,.int .i64 E2] ∧ Q0v 37 w' u D2) v w1) (q7:(fun v w'=>∃ u,v 7 = .tuple #[u,.int .i64 E2] ∧ Q0v 37 w' u D2) v w1);intro bb hbb;obtain ⟨u,hu,ho⟩:=q7;have o1:bb.eval (.tmp 32) = .tuple #[u,.int .i64 E2]:=by rw [hbb]; dsimp only; (try simp (discharger:=decide) only [eval_put_ne]); rw [Q0a (by simp only [size_put]; exact (by decide:32 < 117))]; exact hu
    exact ⟨u,fun w=>Q5w _ 0 rfl o1 rfl w,ho⟩
   case g9 =>
    intro v w1 hx (q0:v 0 = .agg #[.slice A t.basics.length capa,.slice B t.causes.length capb,.slice G t.gates.length capg]) (q1:IsTree w1 (v 1) t) (q2:v 2 = .pointer (some ⟨w.heap.size + 1,0,none⟩)) (q3:v 3 = .int .i64 ya) (q4:v 4 = .pointer (some ⟨w.heap.size + 1,1,none⟩)) (q5:v 5 = .int .i64 yb) (q6:(fun v w'=>∃ u,v 6 = .tuple #[u,.int .i64 E2] ∧ Q0v 37 w' u D2) v w1) (q7:(fun v w'=>∃ u,v 7 = .tuple #[u,.int .i64 E2] ∧ Q0v 37 w' u D2) v w1);intro bb hbb;obtain ⟨u,hu,ho⟩:=q7;have o1:bb.eval (.tmp 32) = .tuple #[u,.int .i64 E2]:=by rw [hbb]; dsimp only; (try simp (discharger:=decide) only [eval_put_ne]); rw [Q0a (by simp only [size_put]; exact (by decide:32 < 117))]; exact hu
    exact ⟨_,fun w=>Q5w _ 1 rfl o1 rfl w,rfl⟩
   case g10 =>
    intro v w1 hx;intro bb hbb;subst hbb;intro K2 hK2;go_simp;exact hK2 _ _ (Ext.box _ _) ⟨_,rfl,(hdr.trans hx).size,Blk.made _ _ _⟩
   case g11 =>
    intro v w1 hx (q0:v 0 = .agg #[.slice A t.basics.length capa,.slice B t.causes.length capb,.slice G t.gates.length capg]) (q1:IsTree w1 (v 1) t) (q2:v 2 = .pointer (some ⟨w.heap.size + 1,0,none⟩)) (q3:v 3 = .int .i64 ya) (q4:v 4 = .pointer (some ⟨w.heap.size + 1,1,none⟩)) (q5:v 5 = .int .i64 yb) (q6:(fun v w'=>∃ u,v 6 = .tuple #[u,.int .i64 E2] ∧ Q0v 37 w' u D2) v w1) (q7:(fun v w'=>∃ u,v 7 = .tuple #[u,.int .i64 E2] ∧ Q0v 37 w' u D2) v w1) (q8:(fun v w'=>Q0v 37 w' (v 8) D2) v w1) (q10:(fun v w'=>∃ g,v 10 = .pointer (some ⟨g,0,none⟩) ∧ w5.heap.size ≤ g ∧ Blk w' g 37 #[.slice none 0 0,.slice none 0 0,.slice none 0 0]) v w1);intro wl hT;obtain rfl:wl = w1:=hT;intro bb hbb;intro K2 hK2;obtain ⟨g,hg,hgl,hgb⟩:=q10;obtain ⟨cs,hcs,hc3,hc1⟩:=q8.is.cells;have o1:bb.eval (.tmp 7) = .pointer (some ⟨g,0,none⟩):=by rw [hbb]; dsimp only; (try simp (discharger:=decide) only [eval_put_ne]); rw [Q0a (by simp only [size_put]; exact (by decide:7 < 117))]; exact hg
    have o2:bb.eval (.tmp 40) = .agg cs:=by rw [hbb]; dsimp only; (try simp (discharger:=decide) only [eval_put_ne]); rw [Q0a (by simp only [size_put]; exact (by decide:40 < 117))]; exact hcs
    exact Q2p (.tmp 7) (.tmp 40) _ rfl Tryz.Q0w o1 o2 hgb rfl hc3 hc1 (fun vv w9 hb hl ho=>hK2 _ _ ⟨cs,hcs,hc3,by rw [← hcs]; exact q8 _ (Ext.refl _) w9 (.inr ⟨g,_,hgb,ho⟩),g,hg,hb,hl _ hgl⟩)
   case g12 =>
    intro v w1 hx (q0:v 0 = .agg #[.slice A t.basics.length capa,.slice B t.causes.length capb,.slice G t.gates.length capg]) (q1:IsTree w1 (v 1) t) (q2:v 2 = .pointer (some ⟨w.heap.size + 1,0,none⟩)) (q3:v 3 = .int .i64 ya) (q4:v 4 = .pointer (some ⟨w.heap.size + 1,1,none⟩)) (q5:v 5 = .int .i64 yb) (q6:(fun v w'=>∃ u,v 6 = .tuple #[u,.int .i64 E2] ∧ Q0v 37 w' u D2) v w1) (q7:(fun v w'=>∃ u,v 7 = .tuple #[u,.int .i64 E2] ∧ Q0v 37 w' u D2) v w1) (q8:(fun v w'=>Q0v 37 w' (v 8) D2) v w1) (q9:v 9 = .int .i64 E2) (q10:(fun v w'=>∃ g,v 10 = .pointer (some ⟨g,0,none⟩) ∧ w5.heap.size ≤ g ∧ Blk w' g 37 #[.slice none 0 0,.slice none 0 0,.slice none 0 0]) v w1);intro wl hT;replace hT:(fun v w1 w'=>∃ cs,v 8 = .agg cs ∧ cs.size = 3 ∧ IsTree w' (.agg cs) D2 ∧ ∃ g,v 10 = .pointer (some ⟨g,0,none⟩) ∧ Blk w' g 37 cs ∧ Below w5.heap.size w1 w') v w1 wl:=hT;intro bb hbb;intro K2 hK2;have o1:bb.eval (.tmp 41) = .int .i64 E2:=by rw [hbb]; dsimp only; (try simp (discharger:=decide) only [eval_put_ne,X0y]); rw [Q0a (by simp only [size_put]; exact (by decide:41 < 117))]; exact q9
    exact Q9d (.tmp 41) rfl o1 (hK2 _ _ ⟨hT,rfl⟩)
   case post =>
    intro v w1 hx (q0:v 0 = .agg #[.slice A t.basics.length capa,.slice B t.causes.length capb,.slice G t.gates.length capg]) (q1:IsTree w1 (v 1) t) (q2:v 2 = .pointer (some ⟨w.heap.size + 1,0,none⟩)) (q3:v 3 = .int .i64 ya) (q4:v 4 = .pointer (some ⟨w.heap.size + 1,1,none⟩)) (q5:v 5 = .int .i64 yb) (q6:(fun v w'=>∃ u,v 6 = .tuple #[u,.int .i64 E2] ∧ Q0v 37 w' u D2) v w1) (q7:(fun v w'=>∃ u,v 7 = .tuple #[u,.int .i64 E2] ∧ Q0v 37 w' u D2) v w1) (q8:(fun v w'=>Q0v 37 w' (v 8) D2) v w1) (q9:v 9 = .int .i64 E2) (q10:(fun v w'=>∃ g,v 10 = .pointer (some ⟨g,0,none⟩) ∧ w5.heap.size ≤ g ∧ Blk w' g 37 #[.slice none 0 0,.slice none 0 0,.slice none 0 0]) v w1);intro w2 hE;replace hE:(fun v w1 w'=>(∃ cs,v 8 = .agg cs ∧ cs.size = 3 ∧ IsTree w' (.agg cs) D2 ∧ ∃ g,v 10 = .pointer (some ⟨g,0,none⟩) ∧ Blk w' g 37 cs ∧ Below w5.heap.size w1 w') ∧ v 12 = .int .i64 E2) v w1 w2:=hE;simp only [Flow.acts,Act.put];go_simp;obtain ⟨⟨csg6,h8,hzg6,ht6,g6,h10,hb6,hl6⟩,h12⟩:=hE;have hxx:Ext w5 w2:=Below.trans (hdr.trans hx) hl6;rw [h10];replace HX:=Lib.hid (HX.out.trans hxx);replace HTAB:=Lib.hid (HTAB.out.ext hxx);replace K0:=Lib.hid (K0.out.ext hxx);replace KX:=Lib.hid (KX.out.ext hxx);replace HT:=Lib.hid (HT.out.ext hxx);replace HD:=Lib.hid (HD.out.ext hxx);replace K5:=Lib.hid (K5.out.ext hxx);have K6:=Lib.hid (hb6);have HD6:=Lib.hid (ht6);have HZg6:=Lib.hid hzg6;clear hxx hx hdr hl6 hb6 ht6 h8 h10 h12 hzg6 q0 q1 q2 q3 q4 q5 q6 q7 q8 q9 q10;obtain ⟨w6,rfl⟩:∃ X,X = w2:=⟨_,rfl⟩;go_upto_region 5 with fail;have hdr:=(Ext.refl w6).drew;refine Flow.Q3v [.world,.world,.plain,.world,.world,.plain,.plain,.plain,.world,.last,.last] [0,1,2,3,4,5,6,7,8,9,10] [[],[0],[],[2],[0,1,2,3],[0,1,2,3,4],[0,1,2,3,4,5],[0,1,2,3,4,5],[],[0,1,2,3,4,5,6,8],[0,1,2,3,4,5,6,7,8,9]] [9,10]
     [.is 0 (fun v=>.agg #[.slice A t.basics.length capa,.slice B t.causes.length capb,.slice G t.gates.length capg]),⟨fun v wz=>IsTree wz (v 1) t,fun _ _ _ hx h=>h.ext hx⟩,.is 2 (fun v=>.pointer (some ⟨w.heap.size + 1,0,none⟩)),.is 3 (fun v=>.int .i64 ya),⟨fun v wz=>(fun v w'=>∃ u,v 4 = .tuple #[u,.int .i64 E3] ∧ Q0v 37 w' u D3) v wz,by rintro v a b hx ⟨u,h1,h2⟩; exact ⟨u,h1,h2.ext hx⟩⟩,⟨fun v wz=>(fun v w'=>∃ u,v 5 = .tuple #[u,.int .i64 E3] ∧ Q0v 37 w' u D3) v wz,by rintro v a b hx ⟨u,h1,h2⟩; exact ⟨u,h1,h2.ext hx⟩⟩,⟨fun v wz=>(fun v w'=>Q0v 37 w' (v 6) D3) v wz,fun _ _ _ hx h=>Q0v.ext h hx⟩,.is 7 (fun v=>.int .i64 E3),⟨fun v wz=>(fun v w'=>∃ g,v 8 = .pointer (some ⟨g,0,none⟩) ∧ w6.heap.size ≤ g ∧ Blk w' g 37 #[.slice none 0 0,.slice none 0 0,.slice none 0 0]) v wz,by rintro v a b hx ⟨g,h1,h2,h3⟩; exact ⟨g,h1,h2,h3.ext hx⟩⟩,.none,.none]
     [fun v w1 w'=>∃ cs,v 6 = .agg cs ∧ cs.size = 3 ∧ IsTree w' (.agg cs) D3 ∧ ∃ g,v 8 = .pointer (some ⟨g,0,none⟩) ∧ Blk w' g 37 cs ∧ Below w6.heap.size w1 w',fun v w1 w'=>(∃ cs,v 6 = .agg cs ∧ cs.size = 3 ∧ IsTree w' (.agg cs) D3 ∧ ∃ g,v 8 = .pointer (some ⟨g,0,none⟩) ∧ Blk w' g 37 cs ∧ Below w6.heap.size w1 w') ∧ v 10 = .int .i64 E3] (by kernel_rfl) rfl (by kernel_rfl) ⟨?g0,?g1,?g2,?g3,?g4,?g5,?g6,?g7,?g8,?g9,?g10,trivial⟩ ?post
    case g0 =>
     intro v w1 hx;intro bb hbb;intro K2 hK2;have o1:bb.eval (.tmp 2) = .pointer (some ⟨w.heap.size,0,none⟩):=by rw [hbb]; dsimp only; (try simp (discharger:=decide) only [eval_put_ne]); rfl
     exact Q0n (.tmp 2) _ rfl Tryz.Q2g Tryz.Q0x o1 (K0.out.ext (hdr.trans hx)) rfl (hK2 _ _ (Ext.refl _) rfl)
    case g1 =>
     intro v w1 hx (q0:v 0 = .agg #[.slice A t.basics.length capa,.slice B t.causes.length capb,.slice G t.gates.length capg]);intro bb hbb;subst hbb;intro K hK;go_simp;refine Q0e (Y1m w1 _ t ⟨_,_,_,rfl,HT.out.ext (hdr.trans hx)⟩ HF.out) ?_;rintro e w2 ⟨x,rfl,h,hx2⟩;exact ⟨_,rfl,hK _ _ hx2 h⟩
    case g2 =>
     intro v w1 hx;intro bb hbb;subst hbb;refine ⟨_,fun w=>?_,rfl⟩;go_simp
    case g3 =>
     intro v w1 hx (q2:v 2 = .pointer (some ⟨w.heap.size + 1,0,none⟩));intro bb hbb;subst hbb;have n0:w1.cell? ⟨w.heap.size + 1,0,none⟩ = some (.int .i64 ya):=(KX.out.ext (hdr.trans hx)).cell 0;intro K hK;go_simp;exact hK _ _ (Ext.refl _) rfl
    case g4 =>
     intro v w1 hx (q0:v 0 = .agg #[.slice A t.basics.length capa,.slice B t.causes.length capb,.slice G t.gates.length capg]) (q1:IsTree w1 (v 1) t) (q2:v 2 = .pointer (some ⟨w.heap.size + 1,0,none⟩)) (q3:v 3 = .int .i64 ya);intro bb hbb;subst hbb;intro K2 hK2;go_simp;refine Q0e (HPW.out w1 _ q1) ?_;rintro e w2 ⟨u,rfl,hu,hx2⟩;exact ⟨_,rfl,hK2 _ _ hx2 ⟨u,rfl,hu⟩⟩
    case g5 =>
     intro v w1 hx (q0:v 0 = .agg #[.slice A t.basics.length capa,.slice B t.causes.length capb,.slice G t.gates.length capg]) (q1:IsTree w1 (v 1) t) (q2:v 2 = .pointer (some ⟨w.heap.size + 1,0,none⟩)) (q3:v 3 = .int .i64 ya) (q4:(fun v w'=>∃ u,v 4 = .tuple #[u,.int .i64 E3] ∧ Q0v 37 w' u D3) v w1);intro bb hbb;obtain ⟨u,hu,ho⟩:=q4;have o1:bb.eval (.tmp 47) = .tuple #[u,.int .i64 E3]:=by rw [hbb]; dsimp only; (try simp (discharger:=decide) only [eval_put_ne]); rw [Q0a (by simp only [size_put]; exact (by decide:47 < 117))]; exact hu
     exact ⟨_,fun w=>X4h _ rfl o1 w,⟨u,rfl,ho⟩⟩
    case g6 =>
     intro v w1 hx (q0:v 0 = .agg #[.slice A t.basics.length capa,.slice B t.causes.length capb,.slice G t.gates.length capg]) (q1:IsTree w1 (v 1) t) (q2:v 2 = .pointer (some ⟨w.heap.size + 1,0,none⟩)) (q3:v 3 = .int .i64 ya) (q4:(fun v w'=>∃ u,v 4 = .tuple #[u,.int .i64 E3] ∧ Q0v 37 w' u D3) v w1) (q5:(fun v w'=>∃ u,v 5 = .tuple #[u,.int .i64 E3] ∧ Q0v 37 w' u D3) v w1);intro bb hbb;obtain ⟨u,hu,ho⟩:=q5;have o1:bb.eval (.tmp 42) = .tuple #[u,.int .i64 E3]:=by rw [hbb]; dsimp only; (try simp (discharger:=decide) only [eval_put_ne]); rw [Q0a (by simp only [size_put]; exact (by decide:42 < 117))]; exact hu
     exact ⟨u,fun w=>Q5w _ 0 rfl o1 rfl w,ho⟩
    case g7 =>
     intro v w1 hx (q0:v 0 = .agg #[.slice A t.basics.length capa,.slice B t.causes.length capb,.slice G t.gates.length capg]) (q1:IsTree w1 (v 1) t) (q2:v 2 = .pointer (some ⟨w.heap.size + 1,0,none⟩)) (q3:v 3 = .int .i64 ya) (q4:(fun v w'=>∃ u,v 4 = .tuple #[u,.int .i64 E3] ∧ Q0v 37 w' u D3) v w1) (q5:(fun v w'=>∃ u,v 5 = .tuple #[u,.int .i64 E3] ∧ Q0v 37 w' u D3) v w1);intro bb hbb;obtain ⟨u,hu,ho⟩:=q5;have o1:bb.eval (.tmp 42) = .tuple #[u,.int .i64 E3]:=by rw [hbb]; dsimp only; (try simp (discharger:=decide) only [eval_put_ne]); rw [Q0a (by simp only [size_put]; exact (by decide:42 < 117))]; exact hu
     exact ⟨_,fun w=>Q5w _ 1 rfl o1 rfl w,rfl⟩
    case g8 =>
     intro v w1 hx;intro bb hbb;subst hbb;intro K2 hK2;go_simp;exact hK2 _ _ (Ext.box _ _) ⟨_,rfl,(hdr.trans hx).size,Blk.made _ _ _⟩
    case g9 =>
     intro v w1 hx (q0:v 0 = .agg #[.slice A t.basics.length capa,.slice B t.causes.length capb,.slice G t.gates.length capg]) (q1:IsTree w1 (v 1) t) (q2:v 2 = .pointer (some ⟨w.heap.size + 1,0,none⟩)) (q3:v 3 = .int .i64 ya) (q4:(fun v w'=>∃ u,v 4 = .tuple #[u,.int .i64 E3] ∧ Q0v 37 w' u D3) v w1) (q5:(fun v w'=>∃ u,v 5 = .tuple #[u,.int .i64 E3] ∧ Q0v 37 w' u D3) v w1) (q6:(fun v w'=>Q0v 37 w' (v 6) D3) v w1) (q8:(fun v w'=>∃ g,v 8 = .pointer (some ⟨g,0,none⟩) ∧ w6.heap.size ≤ g ∧ Blk w' g 37 #[.slice none 0 0,.slice none 0 0,.slice none 0 0]) v w1);intro wl hT;obtain rfl:wl = w1:=hT;intro bb hbb;intro K2 hK2;obtain ⟨g,hg,hgl,hgb⟩:=q8;obtain ⟨cs,hcs,hc3,hc1⟩:=q6.is.cells;have o1:bb.eval (.tmp 9) = .pointer (some ⟨g,0,none⟩):=by rw [hbb]; dsimp only; (try simp (discharger:=decide) only [eval_put_ne]); rw [Q0a (by simp only [size_put]; exact (by decide:9 < 117))]; exact hg
     have o2:bb.eval (.tmp 48) = .agg cs:=by rw [hbb]; dsimp only; (try simp (discharger:=decide) only [eval_put_ne]); rw [Q0a (by simp only [size_put]; exact (by decide:48 < 117))]; exact hcs
     exact Q2p (.tmp 9) (.tmp 48) _ rfl Tryz.Q0w o1 o2 hgb rfl hc3 hc1 (fun vv w9 hb hl ho=>hK2 _ _ ⟨cs,hcs,hc3,by rw [← hcs]; exact q6 _ (Ext.refl _) w9 (.inr ⟨g,_,hgb,ho⟩),g,hg,hb,hl _ hgl⟩)
    case g10 =>
     intro v w1 hx (q0:v 0 = .agg #[.slice A t.basics.length capa,.slice B t.causes.length capb,.slice G t.gates.length capg]) (q1:IsTree w1 (v 1) t) (q2:v 2 = .pointer (some ⟨w.heap.size + 1,0,none⟩)) (q3:v 3 = .int .i64 ya) (q4:(fun v w'=>∃ u,v 4 = .tuple #[u,.int .i64 E3] ∧ Q0v 37 w' u D3) v w1) (q5:(fun v w'=>∃ u,v 5 = .tuple #[u,.int .i64 E3] ∧ Q0v 37 w' u D3) v w1) (q6:(fun v w'=>Q0v 37 w' (v 6) D3) v w1) (q7:v 7 = .int .i64 E3) (q8:(fun v w'=>∃ g,v 8 = .pointer (some ⟨g,0,none⟩) ∧ w6.heap.size ≤ g ∧ Blk w' g 37 #[.slice none 0 0,.slice none 0 0,.slice none 0 0]) v w1);intro wl hT;replace hT:(fun v w1 w'=>∃ cs,v 6 = .agg cs ∧ cs.size = 3 ∧ IsTree w' (.agg cs) D3 ∧ ∃ g,v 8 = .pointer (some ⟨g,0,none⟩) ∧ Blk w' g 37 cs ∧ Below w6.heap.size w1 w') v w1 wl:=hT;intro bb hbb;intro K2 hK2;have o1:bb.eval (.tmp 49) = .int .i64 E3:=by rw [hbb]; dsimp only; (try simp (discharger:=decide) only [eval_put_ne,X0y]); rw [Q0a (by simp only [size_put]; exact (by decide:49 < 117))]; exact q7
     exact Q9d (.tmp 49) rfl o1 (hK2 _ _ ⟨hT,rfl⟩)
    case post =>
     intro v w1 hx (q0:v 0 = .agg #[.slice A t.basics.length capa,.slice B t.causes.length capb,.slice G t.gates.length capg]) (q1:IsTree w1 (v 1) t) (q2:v 2 = .pointer (some ⟨w.heap.size + 1,0,none⟩)) (q3:v 3 = .int .i64 ya) (q4:(fun v w'=>∃ u,v 4 = .tuple #[u,.int .i64 E3] ∧ Q0v 37 w' u D3) v w1) (q5:(fun v w'=>∃ u,v 5 = .tuple #[u,.int .i64 E3] ∧ Q0v 37 w' u D3) v w1) (q6:(fun v w'=>Q0v 37 w' (v 6) D3) v w1) (q7:v 7 = .int .i64 E3) (q8:(fun v w'=>∃ g,v 8 = .pointer (some ⟨g,0,none⟩) ∧ w6.heap.size ≤ g ∧ Blk w' g 37 #[.slice none 0 0,.slice none 0 0,.slice none 0 0]) v w1);intro w2 hE;replace hE:(fun v w1 w'=>(∃ cs,v 6 = .agg cs ∧ cs.size = 3 ∧ IsTree w' (.agg cs) D3 ∧ ∃ g,v 8 = .pointer (some ⟨g,0,none⟩) ∧ Blk w' g 37 cs ∧ Below w6.heap.size w1 w') ∧ v 10 = .int .i64 E3) v w1 w2:=hE;simp only [Flow.acts,Act.put];go_simp;obtain ⟨⟨csg7,h8,hzg7,ht6,g7,h10,hb6,hl6⟩,h12⟩:=hE;have hxx:Ext w6 w2:=Below.trans (hdr.trans hx) hl6;rw [h10];replace HX:=Lib.hid (HX.out.trans hxx);replace HTAB:=Lib.hid (HTAB.out.ext hxx);replace K0:=Lib.hid (K0.out.ext hxx);replace KX:=Lib.hid (KX.out.ext hxx);replace HT:=Lib.hid (HT.out.ext hxx);replace HD:=Lib.hid (HD.out.ext hxx);replace K5:=Lib.hid (K5.out.ext hxx);replace K6:=Lib.hid (K6.out.ext hxx);replace HD6:=Lib.hid (HD6.out.ext hxx);have K7:=Lib.hid (hb6);have HD7:=Lib.hid (ht6);have HZg7:=Lib.hid hzg7;clear hxx hx hdr hl6 hb6 ht6 h8 h10 h12 hzg7 q0 q1 q2 q3 q4 q5 q6 q7 q8;obtain ⟨w7,rfl⟩:∃ X,X = w2:=⟨_,rfl⟩;have k0_0:=K0.out.cell 0;have k0_1:=K0.out.cell 1;have k0_2:=K0.out.cell 2;simp only [List.getElem?_toArray,List.getElem?_cons_zero,List.getElem?_cons_succ] at k0_0 k0_1 k0_2;go_wp2_with fail;clear k0_0 k0_1 k0_2;refine (Q7t _ _ t ⟨_,_,_,rfl,HT.out⟩).mono ?_;rintro e w8 ⟨rfl,hx⟩;have hxx:Ext w7 w8:=hx;replace HX:=Lib.hid (HX.out.trans hxx);replace HTAB:=Lib.hid (HTAB.out.ext hxx);replace K0:=Lib.hid (K0.out.ext hxx);replace KX:=Lib.hid (KX.out.ext hxx);replace HT:=Lib.hid (HT.out.ext hxx);replace HD:=Lib.hid (HD.out.ext hxx);replace K5:=Lib.hid (K5.out.ext hxx);replace K6:=Lib.hid (K6.out.ext hxx);replace HD6:=Lib.hid (HD6.out.ext hxx);replace K7:=Lib.hid (K7.out.ext hxx);replace HD7:=Lib.hid (HD7.out.ext hxx);clear hx hxx;obtain ⟨E0,hE0⟩:∃ E,t.err = E:=⟨_,rfl⟩;have HE0:=Lib.hid hE0;rw [hE0];clear hE0;go_upto_region 7 with fail;obtain ⟨EA,hEA⟩:∃ E,Q0i t [ya] = E:=⟨_,rfl⟩;obtain ⟨ER,hER⟩:∃ E,Q0m yb 0 16 = E:=⟨_,rfl⟩;have HEV:Hid (∀ (w:World) (v:Value),IsTree w v t → Calls Tryz.prog 38 #[v,.int .i64 ya] w fun e w'=>e = .returned (.int .i64 EA) ∧ Ext w w'):=by
      refine Lib.hid (fun w v h=>?_);rw [← hEA];exact Y7d w v t ya h
     have HRC:Hid (∀ (w:World),Calls Tryz.prog 39 #[.int .i64 yb,.int .i64 0,.int .i64 16] w fun e w'=>e = .returned (.int .i64 ER) ∧ w = w'):=by
      refine Lib.hid (fun w=>?_);rw [← hER];exact Q5u w yb 0 16
     have HFI:Hid (∀ (w:World) (v:Value),Q0f w v [EA,ER] → Calls Tryz.prog 37 #[v] w fun e w'=>e = .returned (.int .i64 E2) ∧ w = w'):=by
      refine Lib.hid (fun w v h=>?_);have h2:=Q6e w v _ h;have e:Q0h [EA,ER] = E2:=by rw [← HE2.out,← hEA,← hER]; rfl
      rw [e] at h2;exact h2
     clear hEA hER;have hdr:=(Ext.refl w8).drew;refine Flow.Q3g [.plain,.world,.plain,.world,.world,.plain,.world,.world,.world,.world,.plain,.plain] [0,1,2,3,4,5,6,7,8,9,10,11] [[],[],[],[2],[1,3],[],[5],[4,6],[4,7],[7,8],[0,9],[0,1,2,3,4,5,6,7,8,9,10]]
      [.is 0 (fun v=>.int .i64 E0),.is 1 (fun v=>.agg #[.slice A t.basics.length capa,.slice B t.causes.length capb,.slice G t.gates.length capg]),.is 2 (fun v=>.pointer (some ⟨w.heap.size + 1,0,none⟩)),.is 3 (fun v=>.int .i64 ya),.is 4 (fun v=>.int .i64 EA),.is 5 (fun v=>.pointer (some ⟨w.heap.size + 1,1,none⟩)),.is 6 (fun v=>.int .i64 yb),.is 7 (fun v=>.int .i64 ER),⟨fun v wz=>Q0f wz (v 8) [EA,ER],fun _ _ _ hx h=>h.ext hx⟩,.is 9 (fun v=>.int .i64 E2),.is 10 (fun v=>.int .i64 E0),.is 11 (fun v=>.int .i64 E2)]
      (by kernel_rfl) rfl (by kernel_rfl) ⟨?g0,?g1,?g2,?g3,?g4,?g5,?g6,?g7,?g8,?g9,?g10,?g11,trivial⟩ ?post
     case g0 =>
      intro v w1 hx;intro bb hbb;subst hbb;refine ⟨_,fun w=>?_,rfl⟩;go_simp
     case g1 =>
      intro v w1 hx;intro bb hbb;intro K2 hK2;have o1:bb.eval (.tmp 2) = .pointer (some ⟨w.heap.size,0,none⟩):=by rw [hbb]; dsimp only; (try simp (discharger:=decide) only [eval_put_ne]); rfl
      exact Q0n (.tmp 2) _ rfl Tryz.Q2g Tryz.Q0x o1 (K0.out.ext (hdr.trans hx)) rfl (hK2 _ _ (Ext.refl _) rfl)
     case g2 =>
      intro v w1 hx;intro bb hbb;subst hbb;refine ⟨_,fun w=>?_,rfl⟩;go_simp
     case g3 =>
      intro v w1 hx (q2:v 2 = .pointer (some ⟨w.heap.size + 1,0,none⟩));intro bb hbb;subst hbb;have n0:w1.cell? ⟨w.heap.size + 1,0,none⟩ = some (.int .i64 ya):=(KX.out.ext (hdr.trans hx)).cell 0;intro K hK;go_simp;exact hK _ _ (Ext.refl _) rfl
     case g4 =>
      intro v w1 hx (q1:v 1 = .agg #[.slice A t.basics.length capa,.slice B t.causes.length capb,.slice G t.gates.length capg]) (q3:v 3 = .int .i64 ya);intro bb hbb;subst hbb;intro K hK;go_simp;refine Q0e (HEV.out w1 _ ⟨_,_,_,rfl,HT.out.ext (hdr.trans hx)⟩) ?_;rintro e w2 ⟨rfl,hx2⟩;exact ⟨_,rfl,hK _ _ hx2 rfl⟩
     case g5 =>
      intro v w1 hx;intro bb hbb;subst hbb;refine ⟨_,fun w=>?_,rfl⟩;go_simp
     case g6 =>
      intro v w1 hx (q5:v 5 = .pointer (some ⟨w.heap.size + 1,1,none⟩));intro bb hbb;subst hbb;have n0:w1.cell? ⟨w.heap.size + 1,1,none⟩ = some (.int .i64 yb):=(KX.out.ext (hdr.trans hx)).cell 1;intro K hK;go_simp;exact hK _ _ (Ext.refl _) rfl
     case g7 =>
      intro v w1 hx (q4:v 4 = .int .i64 EA) (q6:v 6 = .int .i64 yb);intro bb hbb;subst hbb;intro K hK;go_simp;refine Q0e (HRC.out w1) ?_;rintro e w2 ⟨rfl,rfl⟩;exact ⟨_,rfl,hK _ _ (Ext.refl _) rfl⟩
     case g8 =>
      intro v w1 hx (q4:v 4 = .int .i64 EA) (q7:v 7 = .int .i64 ER);intro bb hbb;subst hbb;intro K hK;go_simp;exact hK _ _ (Ext.box _ _) (Q2m (l:=[EA,ER]) (by simp))
     case g9 =>
      intro v w1 hx (q7:v 7 = .int .i64 ER) (q8:Q0f w1 (v 8) [EA,ER]);intro bb hbb;subst hbb;intro K hK;go_simp;refine Q0e (HFI.out w1 _ q8) ?_;rintro e w2 ⟨rfl,rfl⟩;exact ⟨_,rfl,hK _ _ (Ext.refl _) rfl⟩
     case g10 =>
      intro v w1 hx (q0:v 0 = .int .i64 E0) (q9:v 9 = .int .i64 E2);intro bb hbb;subst hbb;refine ⟨_,fun w=>?_,rfl⟩;go_simp
     case g11 =>
      intro v w1 hx (q0:v 0 = .int .i64 E0) (q1:v 1 = .agg #[.slice A t.basics.length capa,.slice B t.causes.length capb,.slice G t.gates.length capg]) (q2:v 2 = .pointer (some ⟨w.heap.size + 1,0,none⟩)) (q3:v 3 = .int .i64 ya) (q4:v 4 = .int .i64 EA) (q5:v 5 = .pointer (some ⟨w.heap.size + 1,1,none⟩)) (q6:v 6 = .int .i64 yb) (q7:v 7 = .int .i64 ER) (q8:Q0f w1 (v 8) [EA,ER]) (q9:v 9 = .int .i64 E2) (q10:v 10 = .int .i64 E0);intro bb hbb;subst hbb;refine ⟨_,fun w=>?_,rfl⟩;go_simp
     case post =>
      intro v w1 hx (q0:v 0 = .int .i64 E0) (q1:v 1 = .agg #[.slice A t.basics.length capa,.slice B t.causes.length capb,.slice G t.gates.length capg]) (q2:v 2 = .pointer (some ⟨w.heap.size + 1,0,none⟩)) (q3:v 3 = .int .i64 ya) (q4:v 4 = .int .i64 EA) (q5:v 5 = .pointer (some ⟨w.heap.size + 1,1,none⟩)) (q6:v 6 = .int .i64 yb) (q7:v 7 = .int .i64 ER) (q8:Q0f w1 (v 8) [EA,ER]) (q9:v 9 = .int .i64 E2) (q10:v 10 = .int .i64 E0) (q11:v 11 = .int .i64 E2);simp only [Flow.All,Flow.acts,Act.put];go_simp;have hxx:=hdr.trans hx;replace HX:=Lib.hid (HX.out.trans hxx);replace HTAB:=Lib.hid (HTAB.out.ext hxx);replace K0:=Lib.hid (K0.out.ext hxx);replace KX:=Lib.hid (KX.out.ext hxx);replace HT:=Lib.hid (HT.out.ext hxx);replace HD:=Lib.hid (HD.out.ext hxx);replace K5:=Lib.hid (K5.out.ext hxx);replace K6:=Lib.hid (K6.out.ext hxx);replace HD6:=Lib.hid (HD6.out.ext hxx);replace K7:=Lib.hid (K7.out.ext hxx);replace HD7:=Lib.hid (HD7.out.ext hxx);clear hxx hx hdr q0 q1 q2 q3 q4 q5 q6 q7 q8 q9 q10 q11;obtain ⟨w9,rfl⟩:∃ X,X = w1:=⟨_,rfl⟩;have HDIS:=Lib.hid (⟨h0a,h0b⟩:-9223372036854775808 ≤ ya ∧ ya ≤ 9223372036854775807);go_upto_region 8 with fail
      go_cut [14] (fun x wx=>x = .int .i64 E3 ∧ Ext w9 wx)
      case first =>
       by_cases hq0:ya < 0
       · skip
         skip
         have kx_0:=KX.out.cell 0;simp only [List.getElem?_toArray,List.getElem?_cons_zero,List.getElem?_cons_succ] at kx_0;have HWE:Hid (Q0h [E0,if true then 10 else 0] = E3):=by exact (by rw [← HE3.out,← HE0.out]; symm; unfold Q1r; rw [decide_eq_true hq0]; rfl:Q0h [E0,if true then 10 else 0] = E3)
         have HFJ:Hid (∀ (w:World) (v:Value) (x:Int),x = (if true then 10 else 0) → Q0f w v [E0,x] → Calls Tryz.prog 37 #[v] w fun e w'=>e = .returned (.int .i64 E3) ∧ w = w'):=by
          refine Lib.hid (fun w v x hx h=>?_);have h2:=Q6e w v _ h;rw [hx,HWE.out] at h2;exact h2
         go_wp2_with fail;clear kx_0;refine (Q8f _ true 10).mono ?_;rintro e wb ⟨rfl,rfl⟩;obtain ⟨xw,hxw⟩:∃ x:Int,(if true then 10 else 0) = x:=⟨_,rfl⟩
         have HXW2:=Lib.hid hxw.symm;rw [hxw];clear hxw;go_wp2_with fail;refine (HFJ.out _ _ xw HXW2.out (Q2m (l:=[E0,xw]) (by simp))).mono ?_
         rintro e wc ⟨rfl,rfl⟩;go_wp2_with fail;go_meet;exact ⟨rfl,Ext.box _ _⟩
       by_cases hq1:(t.causes.length:Int) ≤ ya
       · skip
         skip
         have kx_0:=KX.out.cell 0;simp only [List.getElem?_toArray,List.getElem?_cons_zero,List.getElem?_cons_succ] at kx_0;have k0_0:=K0.out.cell 0;have k0_1:=K0.out.cell 1;have k0_2:=K0.out.cell 2;simp only [List.getElem?_toArray,List.getElem?_cons_zero,List.getElem?_cons_succ] at k0_0 k0_1 k0_2;have HWE:Hid (Q0h [E0,if true then 10 else 0] = E3):=by exact (by rw [← HE3.out,← HE0.out]; symm; unfold Q1r; rw [decide_eq_false hq0,decide_eq_true hq1]; rfl:Q0h [E0,if true then 10 else 0] = E3)
         have HFJ:Hid (∀ (w:World) (v:Value) (x:Int),x = (if true then 10 else 0) → Q0f w v [E0,x] → Calls Tryz.prog 37 #[v] w fun e w'=>e = .returned (.int .i64 E3) ∧ w = w'):=by
          refine Lib.hid (fun w v x hx h=>?_);have h2:=Q6e w v _ h;rw [hx,HWE.out] at h2;exact h2
         go_wp2_with fail;clear kx_0 k0_0 k0_1 k0_2;refine (Q8f _ true 10).mono ?_;rintro e wb ⟨rfl,rfl⟩;obtain ⟨xw,hxw⟩:∃ x:Int,(if true then 10 else 0) = x:=⟨_,rfl⟩
         have HXW2:=Lib.hid hxw.symm;rw [hxw];clear hxw;go_wp2_with fail;refine (HFJ.out _ _ xw HXW2.out (Q2m (l:=[E0,xw]) (by simp))).mono ?_
         rintro e wc ⟨rfl,rfl⟩;go_wp2_with fail;go_meet;exact ⟨rfl,Ext.box _ _⟩
       · skip
         skip
         have kx_0:=KX.out.cell 0;simp only [List.getElem?_toArray,List.getElem?_cons_zero,List.getElem?_cons_succ] at kx_0;have k0_0:=K0.out.cell 0;have k0_1:=K0.out.cell 1;have k0_2:=K0.out.cell 2;simp only [List.getElem?_toArray,List.getElem?_cons_zero,List.getElem?_cons_succ] at k0_0 k0_1 k0_2;have HWE:Hid (Q0h [E0,if false then 10 else 0] = E3):=by exact (by rw [← HE3.out,← HE0.out]; symm; unfold Q1r; rw [decide_eq_false hq0,decide_eq_false hq1]; rfl:Q0h [E0,if false then 10 else 0] = E3)
         have HFJ:Hid (∀ (w:World) (v:Value) (x:Int),x = (if false then 10 else 0) → Q0f w v [E0,x] → Calls Tryz.prog 37 #[v] w fun e w'=>e = .returned (.int .i64 E3) ∧ w = w'):=by
          refine Lib.hid (fun w v x hx h=>?_);have h2:=Q6e w v _ h;rw [hx,HWE.out] at h2;exact h2
         go_wp2_with fail;clear kx_0 k0_0 k0_1 k0_2;refine (Q8f _ false 10).mono ?_;rintro e wb ⟨rfl,rfl⟩;obtain ⟨xw,hxw⟩:∃ x:Int,(if false then 10 else 0) = x:=⟨_,rfl⟩
         have HXW2:=Lib.hid hxw.symm;rw [hxw];clear hxw;go_wp2_with fail;refine (HFJ.out _ _ xw HXW2.out (Q2m (l:=[E0,xw]) (by simp))).mono ?_
         rintro e wc ⟨rfl,rfl⟩;go_wp2_with fail;go_meet;exact ⟨rfl,Ext.box _ _⟩
      case rest =>
       obtain ⟨rfl,hcut⟩:=hcut;obtain ⟨w10,rfl⟩:∃ X,X = wc:=⟨_,rfl⟩;replace HX:=Lib.hid (HX.out.trans hcut);replace HTAB:=Lib.hid (HTAB.out.ext hcut);replace K0:=Lib.hid (K0.out.ext hcut);replace KX:=Lib.hid (KX.out.ext hcut);replace HT:=Lib.hid (HT.out.ext hcut);replace HD:=Lib.hid (HD.out.ext hcut);replace K5:=Lib.hid (K5.out.ext hcut);replace K6:=Lib.hid (K6.out.ext hcut);replace HD6:=Lib.hid (HD6.out.ext hcut);replace K7:=Lib.hid (K7.out.ext hcut);replace HD7:=Lib.hid (HD7.out.ext hcut);clear hcut;go_upto_if 78 with fail;change Code.wp _ _ _ _ (((w10.alloc (.cells #[.slice none 0 0,.slice none 0 0,.slice none 0 0] 26)).alloc (.cells #[.slice none 0 0,.slice none 0 0,.slice none 0 0] 26)).alloc (.cells #[.slice none 0 0,.slice none 0 0,.slice none 0 0] 26));have k0:=Blk.made w10 26 #[.slice none 0 0,.slice none 0 0,.slice none 0 0];have x0:=Ext.box w10 (.cells #[.slice none 0 0,.slice none 0 0,.slice none 0 0] 26);have es0:(w10.alloc (.cells #[.slice none 0 0,.slice none 0 0,.slice none 0 0] 26)).heap.size = w10.heap.size + 1:=by simp
       obtain ⟨X0,hX0⟩:∃ X,w10.alloc (.cells #[.slice none 0 0,.slice none 0 0,.slice none 0 0] 26) = X:=⟨_,rfl⟩;rw [hX0] at k0 x0 es0 ⊢;clear hX0;have k1:=Blk.made X0 26 #[.slice none 0 0,.slice none 0 0,.slice none 0 0];have x1:=Ext.box X0 (.cells #[.slice none 0 0,.slice none 0 0,.slice none 0 0] 26);have es1:(X0.alloc (.cells #[.slice none 0 0,.slice none 0 0,.slice none 0 0] 26)).heap.size = X0.heap.size + 1:=by simp
       obtain ⟨X1,hX1⟩:∃ X,X0.alloc (.cells #[.slice none 0 0,.slice none 0 0,.slice none 0 0] 26) = X:=⟨_,rfl⟩;rw [hX1] at k1 x1 es1 ⊢;clear hX1;have k2:=Blk.made X1 26 #[.slice none 0 0,.slice none 0 0,.slice none 0 0];have x2:=Ext.box X1 (.cells #[.slice none 0 0,.slice none 0 0,.slice none 0 0] 26);have es2:(X1.alloc (.cells #[.slice none 0 0,.slice none 0 0,.slice none 0 0] 26)).heap.size = X1.heap.size + 1:=by simp
       obtain ⟨X2,hX2⟩:∃ X,X1.alloc (.cells #[.slice none 0 0,.slice none 0 0,.slice none 0 0] 26) = X:=⟨_,rfl⟩;rw [hX2] at k2 x2 es2 ⊢;clear hX2;replace k0:=(k0.ext x1).ext x2;replace k1:=k1.ext x2;have e0:X0.heap.size = w10.heap.size + 1:=by omega
       have e1:X1.heap.size = w10.heap.size + 1 + 1:=by omega
       have e2:X2.heap.size = w10.heap.size + 1 + 1 + 1:=by omega
       rw [e0] at k1;rw [e1] at k2;have HXW:Hid (Ext w10 X2):=by exact (Ext.trans (Ext.trans (x0) x1) x2:Ext w10 X2)
       have eW:X2.heap.size = w10.heap.size + 1 + 1 + 1:=e2;clear x0 es0 e0 x1 es1 e1 x2 es2 e2;obtain ⟨W,hWW⟩:∃ W,X2 = W:=⟨_,rfl⟩;rw [hWW] at HXW eW ⊢ k0 k1 k2;clear hWW;obtain ⟨gc,hgc⟩:∃ g,w10.heap.size = g:=⟨_,rfl⟩;have HGC:=Lib.hid hgc;rw [hgc] at k0 k1 k2 eW ⊢;clear hgc;have HXB1:=Lib.hid HX.out;clear HX;obtain ⟨w11,hww⟩:∃ X,W = X:=⟨_,rfl⟩;rw [hww] at k0 k1 k2 HXW ⊢;clear hww eW;have HX:=Lib.hid HXW.out;have BX0:=Lib.hid k0;have BX1:=Lib.hid k1;have BX2:=Lib.hid k2;clear k0 k1 k2 HXW;have HR1:Hid (∀ (w:World) (v:Value),IsTree w v t → t.err = 0 → Calls Tryz.prog 41 #[v] w fun e w'=>∃ cs,e = .returned (.tuple #[.agg cs,.int .i64 E1]) ∧ cs.size = 3 ∧ (∀ u ∈ cs.toList,u.oneCell' = true) ∧ X4t 26 w' (.agg cs) D1 ∧ Ext w w'):=by
        refine Lib.hid (fun w v h he=>?_);rw [← HE1.out,← HD1.out];exact Z4k w v t h he HF.out
       have HR2:Hid (∀ (w:World) (v:Value),IsTree w v t → E2 = 0 → Calls Tryz.prog 42 #[v,.int .i64 ya,.int .i64 yb] w fun e w'=>∃ cs,e = .returned (.agg cs) ∧ cs.size = 3 ∧ (∀ u ∈ cs.toList,u.oneCell' = true) ∧ X4t 26 w' (.agg cs) D2 ∧ Ext w w'):=by
        refine Lib.hid (fun w v h he=>?_);rw [← HD2.out];exact Z1g w v t ya yb h (HE2.out.trans he) HF.out
       have HR3:Hid (∀ (w:World) (v:Value),IsTree w v t → E3 = 0 → Calls Tryz.prog 43 #[v,.int .i64 ya] w fun e w'=>∃ cs,e = .returned (.agg cs) ∧ cs.size = 3 ∧ (∀ u ∈ cs.toList,u.oneCell' = true) ∧ X4t 26 w' (.agg cs) D3 ∧ Ext w w'):=by
        refine Lib.hid (fun w v h he=>?_);rw [← HD3.out];exact Y8b w v t ya h (HE3.out.trans he) HF.out
       have HRF:Hid (D1 = D1 ∧ D2 = D2 ∧ D3 = D3):=Lib.hid ⟨rfl,rfl,rfl⟩;have HRA:Hid (E0 ≠ 0 → E1 = E0):=by exact (fun h=>by rw [← HE1.out,← HE0.out]; exact (X1x.1 (by rw [HE0.out]; exact h)).1:E0 ≠ 0 → E1 = E0)
       go_cut [12] (fun x wx=>x = .int .i64 E1 ∧ (∃ cs X,Blk wx (gc) 26 cs ∧ cs.size = 3 ∧ X4t 26 wx (.agg cs) X ∧ (E1 = 0 → X = D1)) ∧ Blk wx (gc + 1) 26 #[.slice none 0 0,.slice none 0 0,.slice none 0 0] ∧ Blk wx (gc + 1 + 1) 26 #[.slice none 0 0,.slice none 0 0,.slice none 0 0] ∧ Ext w10 wx)
       case first =>
        by_cases he:E0 = 0
        · skip
          have hne:(E0 == 0) = true:=by simp [he]
          have HE9:=Lib.hid he;clear he;go_wp2_with (refine Q0j rfl _ 26 rfl Tryz.Q2g Tryz.Q0x rfl (K0.out.ext HX.out) rfl ?_);refine (HR1.out _ _ ⟨_,_,_,rfl,HT.out.ext HX.out⟩ (HE0.out.trans HE9.out)).mono ?_;rintro e w12 ⟨cs,rfl,hc3,hc1,hfirm,hx⟩;replace HX:=Lib.hid (HX.out.trans hx);replace BX0:=Lib.hid (BX0.out.ext hx);replace BX1:=Lib.hid (BX1.out.ext hx);replace BX2:=Lib.hid (BX2.out.ext hx);have HFI2:=Lib.hid hfirm;have HC3:=Lib.hid hc3;have HC1:=Lib.hid hc1;clear hx hfirm hc3 hc1;go_wp2_with (refine Q0d rfl _ _ 26 rfl Tryz.Q0x rfl rfl BX0.out rfl HC3.out HC1.out ?_; intro w13 hb hl ho; refine halted ?_);have HS1:Hid (Ext w10 w13):=Lib.hid (Below.trans HX.out (hl _ (by have:=HGC.out; omega)))
          have hks:=Keep.store BX0.out ho;have BY1:=Lib.hid (BX1.out.only (by omega) ho)
          have BY2:=Lib.hid (BX2.out.only (by omega) ho)
          have FYN:=Lib.hid (HFI2.out.keep hks);have HBN:=Lib.hid hb;clear hb hl ho hks;unfold Q3f;go_wp2_with fail;go_meet;exact ⟨rfl,⟨_,_,HBN.out,HC3.out,FYN.out,fun _=>rfl⟩,BY1.out,BY2.out,HS1.out⟩
        · skip
          have hne:(E0 == 0) = false:=by simp [he]
          have HE9:=Lib.hid he;clear he;go_wp2_with fail;go_meet;exact ⟨by rw [HRA.out HE9.out],⟨_,_,BX0.out,rfl,X2g _ _,fun h=>absurd h (by rw [HRA.out HE9.out]; exact HE9.out)⟩,BX1.out,BX2.out,HX.out⟩
       case rest =>
        obtain ⟨rfl,⟨xs0,X0,hb,hc3,hfx,heq⟩,hb1,hb2,hxw⟩:=hcut;obtain ⟨w12,rfl⟩:∃ X,X = wc:=⟨_,rfl⟩;replace BX0:=Lib.hid hb;have FX0:=Lib.hid hfx;have EX0:=Lib.hid heq;have SX0:=Lib.hid hc3;replace HX:=Lib.hid hxw;replace BX1:=Lib.hid hb1;replace BX2:=Lib.hid hb2;clear hb hfx heq hc3 hxw hb1 hb2;go_upto_if 85 with fail
        go_cut [] (fun wx=>(∃ cs X,Blk wx (gc + 1) 26 cs ∧ cs.size = 3 ∧ X4t 26 wx (.agg cs) X ∧ (E2 = 0 → X = D2)) ∧ Blk wx (gc) 26 xs0 ∧ X4t 26 wx (.agg xs0) X0 ∧ Blk wx (gc + 1 + 1) 26 #[.slice none 0 0,.slice none 0 0,.slice none 0 0] ∧ Ext w10 wx)
        case first =>
         by_cases he:E2 = 0
         · skip
           have hne:(E2 == 0) = true:=by simp [he]
           have HE9:=Lib.hid he;clear he;have HKX2:=Lib.hid (KX.out.ext HX.out);have hkx2_0:=HKX2.out.cell 0;have hkx2_1:=HKX2.out.cell 1;simp only [List.getElem?_toArray,List.getElem?_cons_zero,List.getElem?_cons_succ] at hkx2_0 hkx2_1;go_wp2_with (refine Q0j rfl _ 26 rfl Tryz.Q2g Tryz.Q0x rfl (K0.out.ext HX.out) rfl ?_);clear hkx2_0 hkx2_1;refine (HR2.out _ _ ⟨_,_,_,rfl,HT.out.ext HX.out⟩ HE9.out).mono ?_;rintro e w13 ⟨cs,rfl,hc3,hc1,hfirm,hx⟩;replace HX:=Lib.hid (HX.out.trans hx);replace BX0:=Lib.hid (BX0.out.ext hx);replace BX1:=Lib.hid (BX1.out.ext hx);replace BX2:=Lib.hid (BX2.out.ext hx);replace FX0:=Lib.hid (FX0.out.ext hx);have HFI2:=Lib.hid hfirm;have HC3:=Lib.hid hc3;have HC1:=Lib.hid hc1;clear hx hfirm hc3 hc1;go_wp2_with (refine Q0d rfl _ _ 26 rfl Tryz.Q0x rfl rfl BX1.out rfl HC3.out HC1.out ?_; intro w14 hb hl ho; refine halted ?_);have HS1:Hid (Ext w10 w14):=Lib.hid (Below.trans HX.out (hl _ (by have:=HGC.out; omega)))
           have hks:=Keep.store BX1.out ho;have BY0:=Lib.hid (BX0.out.only (by omega) ho)
           have FY0:=Lib.hid (FX0.out.keep hks);have BY2:=Lib.hid (BX2.out.only (by omega) ho)
           have FYN:=Lib.hid (HFI2.out.keep hks);have HBN:=Lib.hid hb;clear hb hl ho hks;unfold Q3f;go_wp2_with fail;go_meet;exact ⟨⟨_,_,HBN.out,HC3.out,FYN.out,fun _=>rfl⟩,BY0.out,FY0.out,BY2.out,HS1.out⟩
         · skip
           have hne:(E2 == 0) = false:=by simp [he]
           have HE9:=Lib.hid he;clear he;go_wp2_with fail;go_meet;exact ⟨⟨_,_,BX1.out,rfl,X2g _ _,fun h=>absurd h (HE9.out)⟩,BX0.out,FX0.out,BX2.out,HX.out⟩
        case rest =>
         obtain ⟨⟨xs1,X1,hb,hc3,hfx,heq⟩,hb0,hf0,hb2,hxw⟩:=hcut;obtain ⟨w13,rfl⟩:∃ X,X = wc:=⟨_,rfl⟩;replace BX1:=Lib.hid hb;have FX1:=Lib.hid hfx;have EX1:=Lib.hid heq;have SX1:=Lib.hid hc3;replace HX:=Lib.hid hxw;replace BX0:=Lib.hid hb0;replace FX0:=Lib.hid hf0;replace BX2:=Lib.hid hb2;clear hb hfx heq hc3 hxw hb0 hf0 hb2;go_upto_if 93 with fail
         go_cut [] (fun wx=>(∃ cs X,Blk wx (gc + 1 + 1) 26 cs ∧ cs.size = 3 ∧ X4t 26 wx (.agg cs) X ∧ (E3 = 0 → X = D3)) ∧ Blk wx (gc) 26 xs0 ∧ X4t 26 wx (.agg xs0) X0 ∧ Blk wx (gc + 1) 26 xs1 ∧ X4t 26 wx (.agg xs1) X1 ∧ Ext w10 wx)
         case first =>
          by_cases he:E3 = 0
          · skip
            have hne:(E3 == 0) = true:=by simp [he]
            have HE9:=Lib.hid he;clear he;have HKX2:=Lib.hid (KX.out.ext HX.out);have hkx2_0:=HKX2.out.cell 0;simp only [List.getElem?_toArray,List.getElem?_cons_zero,List.getElem?_cons_succ] at hkx2_0;go_wp2_with (refine Q0j rfl _ 26 rfl Tryz.Q2g Tryz.Q0x rfl (K0.out.ext HX.out) rfl ?_);clear hkx2_0;refine (HR3.out _ _ ⟨_,_,_,rfl,HT.out.ext HX.out⟩ HE9.out).mono ?_;rintro e w14 ⟨cs,rfl,hc3,hc1,hfirm,hx⟩;replace HX:=Lib.hid (HX.out.trans hx);replace BX0:=Lib.hid (BX0.out.ext hx);replace BX1:=Lib.hid (BX1.out.ext hx);replace BX2:=Lib.hid (BX2.out.ext hx);replace FX0:=Lib.hid (FX0.out.ext hx);replace FX1:=Lib.hid (FX1.out.ext hx);have HFI2:=Lib.hid hfirm;have HC3:=Lib.hid hc3;have HC1:=Lib.hid hc1;clear hx hfirm hc3 hc1;go_wp2_with (refine Q0d rfl _ _ 26 rfl Tryz.Q0x rfl rfl BX2.out rfl HC3.out HC1.out ?_; intro w15 hb hl ho; refine halted ?_);have HS1:Hid (Ext w10 w15):=Lib.hid (Below.trans HX.out (hl _ (by have:=HGC.out; omega)))
            have hks:=Keep.store BX2.out ho;have BY0:=Lib.hid (BX0.out.only (by omega) ho)
            have FY0:=Lib.hid (FX0.out.keep hks);have BY1:=Lib.hid (BX1.out.only (by omega) ho)
            have FY1:=Lib.hid (FX1.out.keep hks);have FYN:=Lib.hid (HFI2.out.keep hks);have HBN:=Lib.hid hb;clear hb hl ho hks;unfold Q3f;go_wp2_with fail;go_meet;exact ⟨⟨_,_,HBN.out,HC3.out,FYN.out,fun _=>rfl⟩,BY0.out,FY0.out,BY1.out,FY1.out,HS1.out⟩
          · skip
            have hne:(E3 == 0) = false:=by simp [he]
            have HE9:=Lib.hid he;clear he;go_wp2_with fail;go_meet;exact ⟨⟨_,_,BX2.out,rfl,X2g _ _,fun h=>absurd h (HE9.out)⟩,BX0.out,FX0.out,BX1.out,FX1.out,HX.out⟩
         case rest =>
          obtain ⟨⟨xs2,X2,hb,hc3,hfx,heq⟩,hb0,hf0,hb1,hf1,hxw⟩:=hcut;obtain ⟨w14,rfl⟩:∃ X,X = wc:=⟨_,rfl⟩;replace BX2:=Lib.hid hb;have FX2:=Lib.hid hfx;have EX2:=Lib.hid heq;have SX2:=Lib.hid hc3;replace HX:=Lib.hid hxw;replace BX0:=Lib.hid hb0;replace FX0:=Lib.hid hf0;replace BX1:=Lib.hid hb1;replace FX1:=Lib.hid hf1;clear hb hfx heq hc3 hxw hb0 hf0 hb1 hf1;obtain ⟨a6,b6,c6,rfl⟩:=X1l HZg6.out;obtain ⟨a7,b7,c7,rfl⟩:=X1l HZg7.out;obtain ⟨r0,s0,t0,rfl⟩:=X1l SX0.out;obtain ⟨r1,s1,t1,rfl⟩:=X1l SX1.out;obtain ⟨r2,s2,t2,rfl⟩:=X1l SX2.out;clear HZg6 HZg7 SX0 SX1 SX2;have HQ0:Hid (E1 = 0 → X0 = D1 ∧ Few D1):=Lib.hid (fun h=>⟨EX0.out h,by rw [← HD1.out]; exact Y7j HF.out (HE1.out.trans h)⟩)
          have HQ1:Hid (E1 ≠ 0 → D1 = ⟨[],[],[]⟩):=Lib.hid (fun h=>by rw [← HD1.out]; exact Z0y (by rw [HE1.out]; exact h))
          have HKK:=Lib.hid (K5.out.ext HX.out);have hkk_0:=HKK.out.cell 0;have hkk_1:=HKK.out.cell 1;have hkk_2:=HKK.out.cell 2;simp only [List.getElem?_toArray,List.getElem?_cons_zero,List.getElem?_cons_succ] at hkk_0 hkk_1 hkk_2;have bx0_0:=BX0.out.cell 0;have bx0_1:=BX0.out.cell 1;have bx0_2:=BX0.out.cell 2;simp only [List.getElem?_toArray,List.getElem?_cons_zero,List.getElem?_cons_succ] at bx0_0 bx0_1 bx0_2;go_wp2_with fail;clear hkk_0 hkk_1 hkk_2 bx0_0 bx0_1 bx0_2;refine (X2a _ _ _ D1 X0 E1 ⟨_,_,_,rfl,HD.out.ext HX.out⟩ FX0.out.is HQ0.out HQ1.out).mono ?_;rintro e w15 ⟨rfl,hx⟩;have hxx:Ext w14 w15:=hx;replace HX:=Lib.hid (HX.out.trans hxx);replace BX0:=Lib.hid (BX0.out.ext hxx);replace BX1:=Lib.hid (BX1.out.ext hxx);replace BX2:=Lib.hid (BX2.out.ext hxx);replace FX0:=Lib.hid (FX0.out.ext hxx);replace FX1:=Lib.hid (FX1.out.ext hxx);replace FX2:=Lib.hid (FX2.out.ext hxx);clear hx hxx;clear HQ0 HQ1 HKK;have HQ0:Hid (E2 = 0 → X1 = D2 ∧ Few D2):=Lib.hid (fun h=>⟨EX1.out h,by rw [← HD2.out]; exact Y3e HF.out (HE2.out.trans h)⟩)
          have HQ1:Hid (E2 ≠ 0 → D2 = ⟨[],[],[]⟩):=Lib.hid (fun h=>by rw [← HD2.out]; exact Y4x (by rw [HE2.out]; exact h))
          have HKK:=Lib.hid (K6.out.ext HX.out);have hkk_0:=HKK.out.cell 0;have hkk_1:=HKK.out.cell 1;have hkk_2:=HKK.out.cell 2;simp only [List.getElem?_toArray,List.getElem?_cons_zero,List.getElem?_cons_succ] at hkk_0 hkk_1 hkk_2;have bx1_0:=BX1.out.cell 0;have bx1_1:=BX1.out.cell 1;have bx1_2:=BX1.out.cell 2;simp only [List.getElem?_toArray,List.getElem?_cons_zero,List.getElem?_cons_succ] at bx1_0 bx1_1 bx1_2;go_wp2_with fail;clear hkk_0 hkk_1 hkk_2 bx1_0 bx1_1 bx1_2;refine (X2a _ _ _ D2 X1 E2 (HD6.out.ext HX.out) FX1.out.is HQ0.out HQ1.out).mono ?_;rintro e w16 ⟨rfl,hx⟩;have hxx:Ext w15 w16:=hx;replace HX:=Lib.hid (HX.out.trans hxx);replace BX0:=Lib.hid (BX0.out.ext hxx);replace BX1:=Lib.hid (BX1.out.ext hxx);replace BX2:=Lib.hid (BX2.out.ext hxx);replace FX0:=Lib.hid (FX0.out.ext hxx);replace FX1:=Lib.hid (FX1.out.ext hxx);replace FX2:=Lib.hid (FX2.out.ext hxx);clear hx hxx;clear HQ0 HQ1 HKK;have HQ0:Hid (E3 = 0 → X2 = D3 ∧ Few D3):=Lib.hid (fun h=>⟨EX2.out h,by rw [← HD3.out]; exact X9p HF.out (HE3.out.trans h)⟩)
          have HQ1:Hid (E3 ≠ 0 → D3 = ⟨[],[],[]⟩):=Lib.hid (fun h=>by rw [← HD3.out]; exact Y1h (by rw [HE3.out]; exact h))
          have HKK:=Lib.hid (K7.out.ext HX.out);have hkk_0:=HKK.out.cell 0;have hkk_1:=HKK.out.cell 1;have hkk_2:=HKK.out.cell 2;simp only [List.getElem?_toArray,List.getElem?_cons_zero,List.getElem?_cons_succ] at hkk_0 hkk_1 hkk_2;have bx2_0:=BX2.out.cell 0;have bx2_1:=BX2.out.cell 1;have bx2_2:=BX2.out.cell 2;simp only [List.getElem?_toArray,List.getElem?_cons_zero,List.getElem?_cons_succ] at bx2_0 bx2_1 bx2_2;go_wp2_with fail;clear hkk_0 hkk_1 hkk_2 bx2_0 bx2_1 bx2_2;refine (X2a _ _ _ D3 X2 E3 (HD7.out.ext HX.out) FX2.out.is HQ0.out HQ1.out).mono ?_;rintro e w17 ⟨rfl,hx⟩;have hxx:Ext w16 w17:=hx;replace HX:=Lib.hid (HX.out.trans hxx);replace BX0:=Lib.hid (BX0.out.ext hxx);replace BX1:=Lib.hid (BX1.out.ext hxx);replace BX2:=Lib.hid (BX2.out.ext hxx);replace FX0:=Lib.hid (FX0.out.ext hxx);replace FX1:=Lib.hid (FX1.out.ext hxx);replace FX2:=Lib.hid (FX2.out.ext hxx);clear hx hxx;clear HQ0 HQ1 HKK;go_wp2;go_ret;exact ⟨rfl,HW0.out.trans (HXB1.out.trans HX.out)⟩
end Go.Proofs
set_option linter.unusedVariables false
set_option linter.unusedSimpArgs false
set_option linter.constructorNameAsVariable false
namespace Go.Proofs
open Go.RowKit Go.Tw Go.ChangeShapes Go.WideShapes Go.Deep
theorem Tryz.cP:Tryz.prog.cellsOf 66 = 2:=by kernel_rfl
set_option maxRecDepth 100000 in
theorem Y0p {H:Type} {enc:TypeId × Value → H} {W:World} {b0:Nat} {v:Value} {d:DataW H} {ps:List MemPlace} (hv:Value.okWide Tryz.prog W .any b0 66 v) (h:DataW.Trod enc Tryz.prog W 0 (fun _=>true) true 66 v d ps) :
    ∃ a b:Int,v = .agg #[.int .i64 a,.int .i64 b] ∧ (-9223372036854775808 ≤ a ∧ a ≤ 9223372036854775807) ∧ (-9223372036854775808 ≤ b ∧ b ≤ 9223372036854775807):=by
 have hu:Tryz.prog.underlying 66 = some (.array 2 3):=Tryz.underlying66;simp only [Value.okWide,hu] at hv;obtain ⟨cs,rfl,hsz,_⟩:=hv;rw [Tryz.cP] at hsz;obtain ⟨c0,c1,rfl⟩:∃ a b,cs = #[a,b]:=by
  obtain ⟨l⟩:=cs
  match l,hsz with
  | [a,b],_=>exact ⟨a,b,rfl⟩
 obtain ⟨fuel,hf⟩:=h;obtain ⟨xs,m,rfl,_,_,hl,hx⟩:=DataW.trod_array hu hf;have h0:=hx 0 (by omega)
 have h1:=hx 1 (by omega)
 simp only [Value.cells,Tryz.c3,List.drop_zero,Nat.zero_mul,Nat.one_mul,List.take_succ_cons,List.take_zero,List.drop_succ_cons] at h0 h1;rw [List.getElem?_eq_getElem (by omega)] at h0 h1
 obtain ⟨z0,e0,_,w0⟩:=DataW.trod_int Tryz.underlying3 h0;obtain ⟨z1,e1,_,w1⟩:=DataW.trod_int Tryz.underlying3 h1;simp only [List.cons.injEq,and_true] at e0 e1;subst e0;subst e1;have b0:=bounds_i64 w0;have b1:=bounds_i64 w1;exact ⟨z0,z1,rfl,b0,b1⟩
end Go.Proofs
namespace Go.Proofs.YtmaejccjimkbiaaGreatDoor
open Go.ChangeShapes Go.WideShapes Go.ChangeAt Go.RowKit Go.Tw
set_option maxRecDepth 100000 in
theorem X0u (os:Os) (started:os.Started) (H:Type) (enc:TypeId × Value → H) :
    ReturnsInHanded {} Tryz.checked os 5 .any (fun w args=>(Rows.faultChangesSpec.pre enc Tryz.prog Tryz.f5 Rows.faultChangesRow.domain false w args ∧ laidMetH Tryz.prog Y5l w) ∧ sizedMet enc Tryz.prog Tryz.f5 (OpenSpec.ofChange Rows.faultChangesSpec) false w args)
     (Rows.faultChangesSpec.post enc Tryz.prog Tryz.f5 false true false false):=by
 refine returnsInHanded_of_change_and (C:=Tryz.checked) (X:=fun w _=>laidMetH Tryz.prog Y5l w) (fun _ _ _ hh h=>h.of_heap hh) own started (by kernel_rfl) Tryz.func5
  (ChangeSpec.witness_shaped (enc:=enc) (C:=Tryz.checked) (os:=os) (X:=fun w _=>laidMetH Tryz.prog Y5l w) false (World.laidAll Tryz.prog os Y5l) #[.agg #[.slice none 0 0,.slice none 0 0,.slice none 0 0],.agg #[.int .i64 0,.int .i64 0]] 8 (World.laidAll_os _ _ _)
   (World.shaped_of_ZipB (by kernel_rfl) (by kernel_rfl)) (by kernel_rfl) (by kernel_rfl) (by kernel_rfl)
   (by rw [MakeChecks.laidMetH_plain _ _ _ (by kernel_rfl)]; exact laidMet_laidAll _ (by kernel_rfl) (by kernel_rfl))) ?_
 intro W base args ds gs before hval0 hW hc hsz0 hL _;have hval:∀ (j:Nat) t v,Tryz.f5.params[j]? = some t → args[j]? = some v → Value.okWide Tryz.prog W .any base t v:=hval0;have hsz:(DataW.weightsEach Tryz.prog (Tryz.f5.params.toList ++ Rows.faultChangesSpec.plain.varTypes Tryz.prog) (ds ++ gs)).all (· ≤ reachBytes) = true:=hsz0;have hW':=hW;obtain ⟨p,q,hA0,hV,rfl,hfz,hnd⟩:=hW;have hA:DataW.TrodAll enc Tryz.prog W 0 (fun _=>true) true Tryz.f5.params.toList args.toList ds p:=hA0;rw [Tryz.params5] at hA hval hsz;obtain ⟨v0,vs0,d0,ds0,p0,q0,hargs,rfl,rfl,h0,r0⟩:=trodAll_cons hA;obtain ⟨v1,vs1,d1,ds1,p1,q1,rfl,rfl,rfl,h1,r1⟩:=trodAll_cons r0;obtain ⟨rfl,rfl,rfl⟩:=trodAll_nil r1;obtain rfl:args = #[v0,v1]:=by cases args; simp_all
 obtain ⟨rfl,rfl⟩:=trodVars_none hV;have hfit:∀ x ∈ DataW.weightsEach Tryz.prog [26,66] [d0,d1],x ≤ 140737488351232:=fun x hx=>by
  have:=List.all_eq_true.1 (show (DataW.weightsEach Tryz.prog [26,66] [d0,d1]).all (· ≤ reachBytes) = true from hsz) x hx
  exact Nat.le_trans (of_decide_eq_true this) (by decide)
 obtain ⟨f0,g0⟩:=Q3y hfit;obtain ⟨f1,g1⟩:=Q3y g0;have k0:=h0;have lt0:∀ x ∈ p0,x.block < W.heap.size:=by obtain ⟨m,hm⟩:=k0; exact DataW.trod_lt m _ _ _ hm
 obtain ⟨t0,HI0⟩:=Y0o (hval 0 26 v0 rfl rfl) h0 f0;have k1:=h1;have lt1:∀ x ∈ p1,x.block < W.heap.size:=by obtain ⟨m,hm⟩:=k1; exact DataW.trod_lt m _ _ _ hm
 obtain ⟨pa1,pb1,rfl,ba1,bb1⟩:=Y0p (hval 1 66 v1 rfl rfl) h1;clear hA0 hval0 hsz0;refine (X3s _ _ _ _ _ ba1.1 ba1.2 HI0 (Y2g hL)).mono fun e W' ⟨he,bel⟩=>?_;subst he;exact ⟨_,rfl,_,_,_,[],_,[],hW',trodAll_mk1 (shut_bool Tryz.underlying4 _),(trodAll_cons_mk (Below.trod laidOut (by kernel_rfl) (of_decide_eq_true (by kernel_rfl)) k0 bel lt0) (trodAll_cons_mk (Below.trod laidOut (by kernel_rfl) (of_decide_eq_true (by kernel_rfl)) k1 bel lt1) trodAll_mk0)),rfl,bel.frame _,fun h=>by cases h⟩
theorem X1q:Rows.FaultChangesSaid :=
 OpenClaim.holds_of_wide 5 Tryz.f5 rfl rfl rfl rfl rfl rfl rfl ⟨rfl,rfl,rfl,rfl,rfl⟩ rfl rfl rfl rfl rfl (by kernel_rfl) Tryz.func5 (by kernel_rfl)
  (of_decide_eq_true (by kernel_rfl)) (by unfold Func.isWrapper; first | (rw [if_pos (by decide +kernel)]; kernel_rfl) | (rw [if_neg (by decide +kernel)]; exact ⟨rfl,rfl⟩))
  (fun os started H enc _=>X0u os started H enc)
theorem faultChanges_card:Rows.FaultChangesCardSaid :=
 Claim7.holds_tied_plain_at .later [] [.data,.data,.data] true _ false X1q (fun _ h=>by cases h) (by kernel_rfl) (fun _ h=>by cases h) faultChanges_row_tie rfl ⟨rfl,rfl⟩ (by kernel_rfl) rfl
  (fun f fn hf hfn=>by
   obtain rfl:f = 5:=Option.some.inj ((show Tryz.prog.funcNamed Rows.faultChangesRow.func = some 5 by kernel_rfl).symm.trans hf) |>.symm
   obtain rfl:fn = Tryz.f5:=(Option.some.inj (Tryz.func5.symm.trans hfn)).symm;exact ⟨by kernel_rfl,fun j t ht=>by
    rw [Tryz.params5] at ht;have hm:t ∈ [26,66]:=by simpa using Array.mem_of_getElem? ht
    have hall:([26,66].all fun u=>!Tryz.prog.wantsStandIn u) = true:=by kernel_rfl
    exact (show Tryz.prog.wantsStandIn t = false by simpa using List.all_eq_true.1 hall t hm)⟩)
  (by kernel_rfl)
#print axioms faultChanges_card
end Go.Proofs.YtmaejccjimkbiaaGreatDoor
