/- Contracts: Given. -/
import Derived.Test.YtmaejccjimkbiaaGreatDoorFx24
import Derived.Test.YtmaejccjimkbiaaGreatDoorFx26
set_option linter.unusedVariables false
set_option linter.unusedSimpArgs false
set_option linter.constructorNameAsVariable false
namespace Go.Proofs
open Go.RowKit Go.Tw Go.Flow
theorem Tryz.Q2v (w:World):(isAgg 37).run Tryz.prog w = .ok true w:=by kernel_rfl
theorem Tryz.Q0w (w:World):(sizeOf 37).run Tryz.prog w = .ok 3 w:=by kernel_rfl
theorem Y4v (w:World) (x:Int) (B:Nat) (u:Value) (l:List Int) (hB:w.cell? ⟨B,0,none⟩ = some u) (hu:Q0f w u l) :
    Calls Tryz.prog 96 #[.int .i64 x,.pointer (some ⟨B,0,none⟩)] w fun e w'=>e = .returned (.bool (has l x)) ∧ Ext w w':=by
 obtain ⟨A,cap,rfl,hl,hcap,hc⟩:=hu.opened;have HV:=Lib.hid hu;clear hu hc;go_enter Tryz.func96,Tryz.ntmps96;go_wp2_with (go_at_call 97; refine (X1h _ _ l x HV.out).mono ?_; rintro e w' ⟨rfl,rfl⟩);go_ret;exact ⟨rfl,Ext.refl _⟩
def Q5x (t:Tree) (a b:List Int):Int:=Q0h [Q0i t a,Q0i t b,Q0k (a.any (has b)) 30]
def Q7r (t:Tree) (a b:List Int):Int:=Q1g t (Q0t (Q0t t.Q0b a 16) b 0) 0
def X1v (t:Tree) (a b:List Int):Ratio:=if Q5x t a b = 0 then lowest (Q7r t a b) (Q5n 16 t.size) else ⟨0,0⟩
theorem X8j {t:Tree} {a b:List Int} (h:Q5x t a b = 0):Q0i t a = 0 ∧ Q0i t b = 0:=by
 unfold Q5x at h;rw [Q1k] at h;exact ⟨h _ (by simp),h _ (by simp)⟩
set_option maxRecDepth 100000 in
set_option maxHeartbeats 2000000 in
theorem X7a (w:World) (v u z:Value) (t:Tree) (a b:List Int) (ht:IsTree w v t) (hu:Q0f w u a) (hz:Q0f w z b) :
    Calls Tryz.prog 45 #[v,u,z] w fun e w'=>e = .returned (.tuple #[.agg (encR (X1v t a b)),.int .i64 (Q5x t a b)]) ∧ Ext w w':=by
 obtain ⟨Au,capu,rfl,_,_,_⟩:=hu.opened;obtain ⟨Az,capz,rfl,_,_,_⟩:=hz.opened;have HU:=Lib.hid hu;have HZ:=Lib.hid hz;clear hu hz;obtain ⟨E1,hE1⟩:∃ E,Q0i t a = E:=⟨_,rfl⟩;obtain ⟨E2,hE2⟩:∃ E,Q0i t b = E:=⟨_,rfl⟩;obtain ⟨q,hq⟩:∃ q,a.any (has b) = q:=⟨_,rfl⟩;obtain ⟨E,hE⟩:∃ E,Q0h [E1,E2,Q0k q 30] = E:=⟨_,rfl⟩;have HFIN:Hid (Q5x t a b = E):=by exact (by unfold Q5x; rw [hE1,hE2,hq]; exact hE:Q5x t a b = E)
 have HE:Hid (∀ (w':World) (u:Value),Q0f w' u [E1,E2,Q0k q 30] → Calls Tryz.prog 74 #[u] w' fun e w''=>e = .returned (.int .i64 E) ∧ w' = w''):=by
  exact (by intro w' u h; rw [← hE]; exact first_any _ _ _ h:∀ (w':World) (u:Value),Q0f w' u [E1,E2,Q0k q 30] → Calls Tryz.prog 74 #[u] w' fun e w''=>e = .returned (.int .i64 E) ∧ w' = w'')
 have HCA:Hid (∀ (w':World) (v u:Value),IsTree w' v t → Q0f w' u a → Calls Tryz.prog 72 #[v,u] w' fun e w''=>e = .returned (.int .i64 E1) ∧ Ext w' w''):=by
  exact (by intro w' v u h1 h2; rw [← hE1]; exact Q5j _ _ _ _ _ h1 h2:∀ (w':World) (v u:Value),IsTree w' v t → Q0f w' u a → Calls Tryz.prog 72 #[v,u] w' fun e w''=>e = .returned (.int .i64 E1) ∧ Ext w' w'')
 have HCB:Hid (∀ (w':World) (v u:Value),IsTree w' v t → Q0f w' u b → Calls Tryz.prog 72 #[v,u] w' fun e w''=>e = .returned (.int .i64 E2) ∧ Ext w' w''):=by
  exact (by intro w' v u h1 h2; rw [← hE2]; exact Q5j _ _ _ _ _ h1 h2:∀ (w':World) (v u:Value),IsTree w' v t → Q0f w' u b → Calls Tryz.prog 72 #[v,u] w' fun e w''=>e = .returned (.int .i64 E2) ∧ Ext w' w'')
 have HCF:Hid (∀ (w':World) (B:Nat),w'.cell? ⟨B,0,none⟩ = some (.slice Az b.length capz) → Q0f w' (.slice Au a.length capu) a → Q0f w' (.slice Az b.length capz) b → Calls Tryz.prog 78 #[.slice Au a.length capu,.func (.func 96) #[] #[.pointer (some ⟨B,0,none⟩)]] w' fun e w''=>e = .returned (.bool q) ∧ Ext w' w''):=by
  exact (by intro w' B h1 h2 h3; rw [← hq]; exact Q7v _ _ a 96 _ (has b) h2 (enters_of Tryz.func96 (by kernel_rfl) rfl) (fun W x hx _=>Y4v W x B _ b (hx.cell h1) (h3.ext hx)):∀ (w':World) (B:Nat),w'.cell? ⟨B,0,none⟩ = some (.slice Az b.length capz) → Q0f w' (.slice Au a.length capu) a → Q0f w' (.slice Az b.length capz) b → Calls Tryz.prog 78 #[.slice Au a.length capu,.func (.func 96) #[] #[.pointer (some ⟨B,0,none⟩)]] w' fun e w''=>e = .returned (.bool q) ∧ Ext w' w'')
 have HEQ:=Lib.hid hE1;have HEQ2:=Lib.hid hE2;clear hE hE1 hE2 hq;obtain ⟨a,b,c,rfl,h3⟩:=ht;obtain ⟨A,capa,rfl,hl1,hcap1,_⟩:=h3.basics.opened;obtain ⟨B,capb,rfl,hl2,hcap2,_⟩:=h3.causes.opened;obtain ⟨G,capg,rfl,hl3,hcap3,_⟩:=h3.gates.opened;have HT0:=Lib.hid h3;clear h3;go_enter Tryz.func45,Tryz.ntmps45;go_wp2;change Code.wp _ _ _ _ (((w.alloc (.cells #[.slice A t.basics.length capa,.slice B t.causes.length capb,.slice G t.gates.length capg] 37)).alloc (.cells #[.slice Az b.length capz] 39)).alloc (.cells #[.int .i64 0,.int .i64 0] 59));have k0:=Blk.made w 37 #[.slice A t.basics.length capa,.slice B t.causes.length capb,.slice G t.gates.length capg];have x0:=Ext.box w (.cells #[.slice A t.basics.length capa,.slice B t.causes.length capb,.slice G t.gates.length capg] 37);have es0:(w.alloc (.cells #[.slice A t.basics.length capa,.slice B t.causes.length capb,.slice G t.gates.length capg] 37)).heap.size = w.heap.size + 1:=by simp
 obtain ⟨X0,hX0⟩:∃ X,w.alloc (.cells #[.slice A t.basics.length capa,.slice B t.causes.length capb,.slice G t.gates.length capg] 37) = X:=⟨_,rfl⟩;rw [hX0] at k0 x0 es0 ⊢;clear hX0;have k1:=Blk.made X0 39 #[.slice Az b.length capz];have x1:=Ext.box X0 (.cells #[.slice Az b.length capz] 39);have es1:(X0.alloc (.cells #[.slice Az b.length capz] 39)).heap.size = X0.heap.size + 1:=by simp
 obtain ⟨X1,hX1⟩:∃ X,X0.alloc (.cells #[.slice Az b.length capz] 39) = X:=⟨_,rfl⟩;rw [hX1] at k1 x1 es1 ⊢;clear hX1;have k2:=Blk.made X1 59 #[.int .i64 0,.int .i64 0];have x2:=Ext.box X1 (.cells #[.int .i64 0,.int .i64 0] 59);have es2:(X1.alloc (.cells #[.int .i64 0,.int .i64 0] 59)).heap.size = X1.heap.size + 1:=by simp
 obtain ⟨X2,hX2⟩:∃ X,X1.alloc (.cells #[.int .i64 0,.int .i64 0] 59) = X:=⟨_,rfl⟩;rw [hX2] at k2 x2 es2 ⊢;clear hX2;replace k0:=(k0.ext x1).ext x2;replace k1:=k1.ext x2;have e0:X0.heap.size = w.heap.size + 1:=by omega
 have e1:X1.heap.size = w.heap.size + 1 + 1:=by omega
 have e2:X2.heap.size = w.heap.size + 1 + 1 + 1:=by omega
 rw [e0] at k1;rw [e1] at k2;have HXW:Hid (Ext w X2):=by exact (Ext.trans (Ext.trans (x0) x1) x2:Ext w X2)
 have eW:X2.heap.size = w.heap.size + 1 + 1 + 1:=e2;clear x0 es0 e0 x1 es1 e1 x2 es2 e2;obtain ⟨W,hWW⟩:∃ W,X2 = W:=⟨_,rfl⟩;rw [hWW] at HXW eW ⊢ k0 k1 k2;clear hWW;have HT:=Lib.hid (HT0.out.ext HXW.out);have HUW:=Lib.hid (HU.out.ext HXW.out);have HZW:=Lib.hid (HZ.out.ext HXW.out);have K0:=Lib.hid k0;have K1:=Lib.hid k1;have hdr:=(Ext.refl W).drew;refine Flow.Q3g [.world,.plain,.world,.world,.world,.world,.plain,.plain,.world,.world,.world,.world,.plain] [0,1,2,3,4,5,6,7,8,9,10,11,12] [[],[],[0,1],[],[],[2,3,4],[],[],[5,6,7],[8],[2,5,9],[9,10],[0,1,2,3,4,5,6,7,8,9,10,11]]
  [.is 0 (fun v=>.agg #[.slice A t.basics.length capa,.slice B t.causes.length capb,.slice G t.gates.length capg]),.is 1 (fun v=>.slice Au a.length capu),.is 2 (fun v=>.int .i64 E1),.is 3 (fun v=>.agg #[.slice A t.basics.length capa,.slice B t.causes.length capb,.slice G t.gates.length capg]),.is 4 (fun v=>.slice Az b.length capz),.is 5 (fun v=>.int .i64 E2),.is 6 (fun v=>.slice Au a.length capu),.is 7 (fun v=>.func (.func 96) #[] #[.pointer (some ⟨w.heap.size + 1,0,none⟩)]),.is 8 (fun v=>.bool q),.is 9 (fun v=>.int .i64 (Q0k q 30)),⟨fun v wz=>Q0f wz (v 10) [E1,E2,Q0k q 30],fun _ _ _ hx h=>h.ext hx⟩,.is 11 (fun v=>.int .i64 E),.is 12 (fun v=>.int .i64 E)]
  (by kernel_rfl) rfl (by kernel_rfl) ⟨?g0,?g1,?g2,?g3,?g4,?g5,?g6,?g7,?g8,?g9,?g10,?g11,?g12,trivial⟩ ?post
 case g0 =>
  intro v w1 hx;intro bb hbb;intro K hK;have o1:bb.eval (.tmp 3) = .pointer (some ⟨w.heap.size,0,none⟩):=by rw [hbb]; dsimp only; (try simp (discharger:=decide) only [eval_put_ne]); rfl
  exact Q0n (.tmp 3) _ rfl Tryz.Q2v Tryz.Q0w o1 (K0.out.ext (hdr.trans hx)) rfl (hK _ _ (Ext.refl _) rfl)
 case g1 =>
  intro v w1 hx;intro bb hbb;subst hbb;refine ⟨_,fun w=>?_,rfl⟩;go_simp
 case g2 =>
  intro v w1 hx (q0:v 0 = .agg #[.slice A t.basics.length capa,.slice B t.causes.length capb,.slice G t.gates.length capg]) (q1:v 1 = .slice Au a.length capu);intro bb hbb;subst hbb;intro K hK;go_simp;refine Q0e (HCA.out w1 _ _ ⟨_,_,_,rfl,HT.out.ext (hdr.trans hx)⟩ (HUW.out.ext (hdr.trans hx))) ?_;rintro e w2 ⟨rfl,hx2⟩;exact ⟨_,rfl,hK _ _ hx2 rfl⟩
 case g3 =>
  intro v w1 hx;intro bb hbb;intro K hK;have o1:bb.eval (.tmp 3) = .pointer (some ⟨w.heap.size,0,none⟩):=by rw [hbb]; dsimp only; (try simp (discharger:=decide) only [eval_put_ne]); rfl
  exact Q0n (.tmp 3) _ rfl Tryz.Q2v Tryz.Q0w o1 (K0.out.ext (hdr.trans hx)) rfl (hK _ _ (Ext.refl _) rfl)
 case g4 =>
  intro v w1 hx;intro bb hbb;subst hbb;have n0:w1.cell? ⟨w.heap.size + 1,0,none⟩ = some (.slice Az b.length capz):=(K1.out.ext (hdr.trans hx)).cell 0;intro K hK;go_simp;exact hK _ _ (Ext.refl _) rfl
 case g5 =>
  intro v w1 hx (q2:v 2 = .int .i64 E1) (q3:v 3 = .agg #[.slice A t.basics.length capa,.slice B t.causes.length capb,.slice G t.gates.length capg]) (q4:v 4 = .slice Az b.length capz);intro bb hbb;subst hbb;intro K hK;go_simp;refine Q0e (HCB.out w1 _ _ ⟨_,_,_,rfl,HT.out.ext (hdr.trans hx)⟩ (HZW.out.ext (hdr.trans hx))) ?_;rintro e w2 ⟨rfl,hx2⟩;exact ⟨_,rfl,hK _ _ hx2 rfl⟩
 case g6 =>
  intro v w1 hx;intro bb hbb;subst hbb;refine ⟨_,fun w=>?_,rfl⟩;go_simp
 case g7 =>
  intro v w1 hx;intro bb hbb;subst hbb;refine ⟨_,fun w=>?_,rfl⟩;go_simp
 case g8 =>
  intro v w1 hx (q5:v 5 = .int .i64 E2) (q6:v 6 = .slice Au a.length capu) (q7:v 7 = .func (.func 96) #[] #[.pointer (some ⟨w.heap.size + 1,0,none⟩)]);intro bb hbb;subst hbb;intro K hK;go_simp;refine Q0e (HCF.out w1 _ ((K1.out.ext (hdr.trans hx)).cell 0) (HUW.out.ext (hdr.trans hx)) (HZW.out.ext (hdr.trans hx))) ?_;rintro e w2 ⟨rfl,hx2⟩;exact ⟨_,rfl,hK _ _ hx2 rfl⟩
 case g9 =>
  intro v w1 hx (q8:v 8 = .bool q);intro bb hbb;subst hbb;intro K hK;go_simp;refine Q0e (Q3n _ _ _) ?_;rintro e w2 ⟨rfl,rfl⟩;exact ⟨_,rfl,hK _ _ (Ext.refl _) rfl⟩
 case g10 =>
  intro v w1 hx (q2:v 2 = .int .i64 E1) (q5:v 5 = .int .i64 E2) (q9:v 9 = .int .i64 (Q0k q 30));intro bb hbb;subst hbb;intro K hK;go_simp;exact hK _ _ (Ext.box _ _) (Q2m (l:=[E1,E2,Q0k q 30]) (by simp))
 case g11 =>
  intro v w1 hx (q9:v 9 = .int .i64 (Q0k q 30)) (q10:Q0f w1 (v 10) [E1,E2,Q0k q 30]);intro bb hbb;subst hbb;intro K hK;go_simp;refine Q0e (HE.out _ _ q10) ?_;rintro e w2 ⟨rfl,rfl⟩;exact ⟨_,rfl,hK _ _ (Ext.refl _) rfl⟩
 case g12 =>
  intro v w1 hx (q0:v 0 = .agg #[.slice A t.basics.length capa,.slice B t.causes.length capb,.slice G t.gates.length capg]) (q1:v 1 = .slice Au a.length capu) (q2:v 2 = .int .i64 E1) (q3:v 3 = .agg #[.slice A t.basics.length capa,.slice B t.causes.length capb,.slice G t.gates.length capg]) (q4:v 4 = .slice Az b.length capz) (q5:v 5 = .int .i64 E2) (q6:v 6 = .slice Au a.length capu) (q7:v 7 = .func (.func 96) #[] #[.pointer (some ⟨w.heap.size + 1,0,none⟩)]) (q8:v 8 = .bool q) (q9:v 9 = .int .i64 (Q0k q 30)) (q10:Q0f w1 (v 10) [E1,E2,Q0k q 30]) (q11:v 11 = .int .i64 E);intro bb hbb;subst hbb;refine ⟨_,fun w=>?_,rfl⟩;go_simp
 case post =>
  intro v w1 hx (q0:v 0 = .agg #[.slice A t.basics.length capa,.slice B t.causes.length capb,.slice G t.gates.length capg]) (q1:v 1 = .slice Au a.length capu) (q2:v 2 = .int .i64 E1) (q3:v 3 = .agg #[.slice A t.basics.length capa,.slice B t.causes.length capb,.slice G t.gates.length capg]) (q4:v 4 = .slice Az b.length capz) (q5:v 5 = .int .i64 E2) (q6:v 6 = .slice Au a.length capu) (q7:v 7 = .func (.func 96) #[] #[.pointer (some ⟨w.heap.size + 1,0,none⟩)]) (q8:v 8 = .bool q) (q9:v 9 = .int .i64 (Q0k q 30)) (q10:Q0f w1 (v 10) [E1,E2,Q0k q 30]) (q11:v 11 = .int .i64 E) (q12:v 12 = .int .i64 E);simp only [Flow.All,Flow.acts,Act.put];go_simp;have hx1:=hdr.trans hx;have HX1:=Lib.hid hx1;have HXX:=Lib.hid (HXW.out.trans hx1);have kt:=k0.ext hx1;have c0:=kt.cell 0;have c1:=kt.cell 1;have c2:=kt.cell 2;simp only [List.getElem?_toArray,List.getElem?_cons_zero,List.getElem?_cons_succ] at c0 c1 c2;have cz:w1.cell? ⟨w.heap.size + 1,0,none⟩ = some (.slice Az b.length capz):=(k1.ext hx1).cell 0;have hbr:=k2.ext hx1;have HUX:=Lib.hid (HUW.out.ext hx1);have HZX:=Lib.hid (HZW.out.ext hx1);clear kt k0 k1 k2 hx1 hx K0 K1 HUW HZW HCA HCB HCF HE
  by_cases hE0:E = 0
  · have hne:(E != 0) = false:=by simp [hE0]
    have hz:=X8j (HFIN.out.trans hE0);have hs1:=Q4d hz.1;have hs2:=Q4d hz.2;have HV:=Lib.hid hs1.1;have hsz:=hs1.1.size;have hb1:=(Q2n hs1.2).1;have hb2:=(Q2n hs2.2).1;have HR:Hid (X1v t a b = lowest (Q7r t a b) (Q5n 16 t.size)):=by exact (by unfold X1v; rw [if_pos (HFIN.out.trans hE0)]:X1v t a b = lowest (Q7r t a b) (Q5n 16 t.size))
    have HE0:Hid (Q5x t a b = 0):=Lib.hid (HFIN.out.trans hE0);clear hE0 hz hs1 hs2;go_wp2_with fail;refine (Q3o _ _ t HV.out ⟨_,_,_,rfl,HT.out.ext HX1.out⟩).mono ?_;rintro e w2 ⟨fv,gv,rfl,hn,hx2⟩;obtain ⟨A1,cap1,rfl,_,_,_⟩:=hn.fails.opened;obtain ⟨A2,cap2,rfl,_,_,_⟩:=hn.gates.opened;rw [Q2o] at hn ⊢;have HN:=Lib.hid hn;have HX2:=Lib.hid hx2;clear hn hx2 c0 c1 c2;replace hbr:=hbr.ext HX2.out;have hbl:=hbr.lt;replace cz:=HX2.out.cell cz;have HUY:=Lib.hid (HUX.out.ext HX2.out);have HZY:=Lib.hid (HZX.out.ext HX2.out);go_wp2_with (first | (refine Q0j rfl _ 121 rfl Tryz.Q1s Tryz.Q0r rfl hb9 rfl ?_) | (refine Q2b rfl _ 116 rfl Tryz.Q6x Tryz.Q4a rfl (Q2a hb9) rfl ?_) | (refine Q0d rfl _ _ 121 rfl Tryz.Q0r rfl rfl (Blk.made _ _ _) rfl rfl ?_ ?_; (focus (intro u hu; simp [outA] at hu; rcases hu with rfl | rfl | rfl | rfl | rfl | rfl | rfl | rfl | rfl | rfl | rfl | rfl | rfl | rfl | rfl | rfl <;> rfl)); intro w9 hb9 hl9 ho9) | fail)
    have hx9:Ext w2 w9:=Below.trans (Ext.box w2 _) (hl9 _ (Nat.le_refl _));have HXX9:Hid (Ext w w9):=by exact (HXX.out.trans HX2.out).trans hx9
    have HN9:=Lib.hid (HN.out.ext hx9);have HBR:=Lib.hid (hbr.ext hx9);have HB9:=Lib.hid hb9;replace cz:=hx9.cell cz;have HU9:=Lib.hid (HUY.out.ext hx9);have HZ9:=Lib.hid (HZY.out.ext hx9);have hbl9:=(hbr.ext hx9).lt;clear hl9 ho9 hb9 hx9 hbr;have hlen:=Q4v t;have hsm:=HV.out.small;have hs16:=Small.put (l:=a) hsm (n:=16) (by omega) (by omega)
    have hs0:=Small.put (l:=b) hs16 (n:=0) (by omega) (by omega)
    have hpb:=X4s hsz;have hl16:(Q0t t.Q0b a 16).length = t.size:=by rw [Q8a,hlen]
    have hl0:(Q0t (Q0t t.Q0b a 16) b 0).length = t.size:=by rw [Q8a,hl16]
    have HS16:Hid (∀ w',Ext w9 w' → Calls Tryz.prog 98 #[chV t.Q0b,.slice Au a.length capu,.int .i64 16] w' fun e w''=>e = .returned (chV (Q0t t.Q0b a 16)) ∧ Ext w' w''):=by
     exact (fun w' hx=>set_any w' t.Q0b a _ 16 (HU9.out.ext hx) (by rw [hlen]; exact hsz) (by rw [hlen]; exact hb1):∀ w',Ext w9 w' → Calls Tryz.prog 98 #[chV t.Q0b,.slice Au a.length capu,.int .i64 16] w' fun e w''=>e = .returned (chV (Q0t t.Q0b a 16)) ∧ Ext w' w'')
    have HS0:Hid (∀ w',Ext w9 w' → Calls Tryz.prog 98 #[chV (Q0t t.Q0b a 16),.slice Az b.length capz,.int .i64 0] w' fun e w''=>e = .returned (chV (Q0t (Q0t t.Q0b a 16) b 0)) ∧ Ext w' w''):=by
     exact (fun w' hx=>set_any w' (Q0t t.Q0b a 16) b _ 0 (HZ9.out.ext hx) (by rw [hl16]; exact hsz) (by rw [hl16]; exact hb2):∀ w',Ext w9 w' → Calls Tryz.prog 98 #[chV (Q0t t.Q0b a 16),.slice Az b.length capz,.int .i64 0] w' fun e w''=>e = .returned (chV (Q0t (Q0t t.Q0b a 16) b 0)) ∧ Ext w' w'')
    have HP:Hid (∀ w',Ext w9 w' → Calls Tryz.prog 86 #[noV t t.Q0b (.slice A1 t.size cap1) (.slice A2 t.gates.length cap2),chV (Q0t (Q0t t.Q0b a 16) b 0)] w' fun e w''=>e = .returned (.agg (Q5o (Q7r t a b) (Q5n 16 t.size))) ∧ Ext w' w''):=by
     exact (fun w' hx=>Q4f w' _ _ t t.Q0b _ HV.out (HN9.out.ext hx) hs0 hl0:∀ w',Ext w9 w' → Calls Tryz.prog 86 #[noV t t.Q0b (.slice A1 t.size cap1) (.slice A2 t.gates.length cap2),chV (Q0t (Q0t t.Q0b a 16) b 0)] w' fun e w''=>e = .returned (.agg (Q5o (Q7r t a b) (Q5n 16 t.size))) ∧ Ext w' w'')
    have hdr:=(Ext.refl w9).drew;clear hb1 hb2 hlen hsm hs16 hs0 hl16 hl0 HU9 HZ9 HUX HZX HUY HZY;refine Flow.Q3v [.world,.plain,.plain,.world,.plain,.world,.world,.world,.world,.last,.last] [0,1,2,3,4,5,6,7,8,9,10] [[],[],[1],[1,2],[],[1,2,3,4],[],[1,2,3,4,5,6],[0,1,2,3,4,5,6,7],[0,1,2,3,4,5,6,7,8],[0,1,2,3,4,5,6,7,8,9]] [9,10]
     [.is 0 (fun v=>noV t t.Q0b (.slice A1 t.size cap1) (.slice A2 t.gates.length cap2)),.is 1 (fun v=>.pointer (some ⟨w2.heap.size,0,none⟩)),.is 2 (fun v=>.pointer (some ⟨w2.heap.size,2,none⟩)),.is 3 (fun v=>chV t.Q0b),.is 4 (fun v=>.slice Au a.length capu),.is 5 (fun v=>chV (Q0t t.Q0b a 16)),.is 6 (fun v=>.slice Az b.length capz),.is 7 (fun v=>chV (Q0t (Q0t t.Q0b a 16) b 0)),.is 8 (fun v=>.agg (Q5o (Q7r t a b) (Q5n 16 t.size))),.none,.none]
     [fun v w1 w'=>Blk w' (w.heap.size + 1 + 1) 59 (Q5o (Q7r t a b) (Q5n 16 t.size)) ∧ Below w.heap.size w1 w',fun v w1 w'=>v 10 = .int .i64 0 ∧ Blk w' (w.heap.size + 1 + 1) 59 (Q5o (Q7r t a b) (Q5n 16 t.size)) ∧ Below w.heap.size w1 w'] (by kernel_rfl) rfl (by kernel_rfl) ⟨?g0,?g1,?g2,?g3,?g4,?g5,?g6,?g7,?g8,?g9,?g10,trivial⟩ ?post
    case g0 =>
     intro v w1 hx;intro bb hbb;intro K hK;have o1:bb.eval (.tmp 9) = .pointer (some ⟨w2.heap.size,0,none⟩):=by rw [hbb]; dsimp only; (try simp (discharger:=decide) only [eval_put_ne]); rfl
     exact Q0n (.tmp 9) _ rfl Tryz.Q1s Tryz.Q0r o1 (HB9.out.ext (hdr.trans hx)) rfl (hK _ _ (Ext.refl _) rfl)
    case g1 =>
     intro v w1 hx;intro bb hbb;subst hbb;refine ⟨_,fun w=>?_,rfl⟩;go_simp
    case g2 =>
     intro v w1 hx (q1:v 1 = .pointer (some ⟨w2.heap.size,0,none⟩));intro bb hbb;subst hbb;refine ⟨_,fun w=>?_,rfl⟩;go_simp
    case g3 =>
     intro v w1 hx (q1:v 1 = .pointer (some ⟨w2.heap.size,0,none⟩)) (q2:v 2 = .pointer (some ⟨w2.heap.size,2,none⟩));intro bb hbb;intro K hK;have o1:bb.eval (.tmp 30) = .pointer (some ⟨w2.heap.size,2,none⟩):=by rw [hbb]; dsimp only; (try simp (discharger:=decide) only [eval_put_ne]); rw [Q0a (by simp only [size_put]; exact (by decide:30 < 37))]; exact q2
     exact Q3b (.tmp 30) _ rfl Tryz.Q6x Tryz.Q4a o1 ((Q2a HB9.out).ext (hdr.trans hx)) rfl (hK _ _ (Ext.refl _) rfl)
    case g4 =>
     intro v w1 hx;intro bb hbb;subst hbb;refine ⟨_,fun w=>?_,rfl⟩;go_simp
    case g5 =>
     intro v w1 hx (q1:v 1 = .pointer (some ⟨w2.heap.size,0,none⟩)) (q2:v 2 = .pointer (some ⟨w2.heap.size,2,none⟩)) (q3:v 3 = chV t.Q0b) (q4:v 4 = .slice Au a.length capu);intro bb hbb;subst hbb;intro K hK;go_simp;refine Q0e (HS16.out _ (hdr.trans hx)) ?_;rintro e w2 ⟨rfl,hx2⟩;exact ⟨_,rfl,hK _ _ hx2 rfl⟩
    case g6 =>
     intro v w1 hx;intro bb hbb;subst hbb;have cz:=hx.cell cz;intro K hK;go_simp;exact hK _ _ (Ext.refl _) rfl
    case g7 =>
     intro v w1 hx (q1:v 1 = .pointer (some ⟨w2.heap.size,0,none⟩)) (q2:v 2 = .pointer (some ⟨w2.heap.size,2,none⟩)) (q3:v 3 = chV t.Q0b) (q4:v 4 = .slice Au a.length capu) (q5:v 5 = chV (Q0t t.Q0b a 16)) (q6:v 6 = .slice Az b.length capz);intro bb hbb;subst hbb;intro K hK;go_simp;refine Q0e (HS0.out _ (hdr.trans hx)) ?_;rintro e w2 ⟨rfl,hx2⟩;exact ⟨_,rfl,hK _ _ hx2 rfl⟩
    case g8 =>
     intro v w1 hx (q0:v 0 = noV t t.Q0b (.slice A1 t.size cap1) (.slice A2 t.gates.length cap2)) (q1:v 1 = .pointer (some ⟨w2.heap.size,0,none⟩)) (q2:v 2 = .pointer (some ⟨w2.heap.size,2,none⟩)) (q3:v 3 = chV t.Q0b) (q4:v 4 = .slice Au a.length capu) (q5:v 5 = chV (Q0t t.Q0b a 16)) (q6:v 6 = .slice Az b.length capz) (q7:v 7 = chV (Q0t (Q0t t.Q0b a 16) b 0));intro bb hbb;subst hbb;intro K hK;go_simp;refine Q0e (HP.out _ (hdr.trans hx)) ?_;rintro e w2 ⟨rfl,hx2⟩;exact ⟨_,rfl,hK _ _ hx2 rfl⟩
    case g9 =>
     intro v w1 hx (q0:v 0 = noV t t.Q0b (.slice A1 t.size cap1) (.slice A2 t.gates.length cap2)) (q1:v 1 = .pointer (some ⟨w2.heap.size,0,none⟩)) (q2:v 2 = .pointer (some ⟨w2.heap.size,2,none⟩)) (q3:v 3 = chV t.Q0b) (q4:v 4 = .slice Au a.length capu) (q5:v 5 = chV (Q0t t.Q0b a 16)) (q6:v 6 = .slice Az b.length capz) (q7:v 7 = chV (Q0t (Q0t t.Q0b a 16) b 0)) (q8:v 8 = .agg (Q5o (Q7r t a b) (Q5n 16 t.size)));intro wl hT;obtain rfl:wl = w1:=hT;intro bb hbb;intro K hK;have o1:bb.eval (.tmp 6) = .pointer (some ⟨w.heap.size + 1 + 1,0,none⟩):=by rw [hbb]; dsimp only; (try simp (discharger:=decide) only [eval_put_ne]); rfl
     have o2:bb.eval (.tmp 36) = .agg (Q5o (Q7r t a b) (Q5n 16 t.size)):=by rw [hbb]; dsimp only; (try simp (discharger:=decide) only [eval_put_ne]); rw [Q0a (by simp only [size_put]; exact (by decide:36 < 37))]; exact q8
     exact Q2p (.tmp 6) (.tmp 36) _ rfl Tryz.Q1v o1 o2 (HBR.out.ext (hdr.trans hx)) rfl rfl (Q5t _ _) (fun vv w' hb hl ho=>hK _ _ ⟨hb,hl _ (by omega)⟩)
    case g10 =>
     intro v w1 hx (q0:v 0 = noV t t.Q0b (.slice A1 t.size cap1) (.slice A2 t.gates.length cap2)) (q1:v 1 = .pointer (some ⟨w2.heap.size,0,none⟩)) (q2:v 2 = .pointer (some ⟨w2.heap.size,2,none⟩)) (q3:v 3 = chV t.Q0b) (q4:v 4 = .slice Au a.length capu) (q5:v 5 = chV (Q0t t.Q0b a 16)) (q6:v 6 = .slice Az b.length capz) (q7:v 7 = chV (Q0t (Q0t t.Q0b a 16) b 0)) (q8:v 8 = .agg (Q5o (Q7r t a b) (Q5n 16 t.size)));intro wl hT;replace hT:(fun v w1 w'=>Blk w' (w.heap.size + 1 + 1) 59 (Q5o (Q7r t a b) (Q5n 16 t.size)) ∧ Below w.heap.size w1 w') v w1 wl:=hT;intro bb hbb;subst hbb;intro K hK;go_simp;exact hK _ _ ⟨rfl,hT⟩
    case post =>
     intro v w1 hx (q0:v 0 = noV t t.Q0b (.slice A1 t.size cap1) (.slice A2 t.gates.length cap2)) (q1:v 1 = .pointer (some ⟨w2.heap.size,0,none⟩)) (q2:v 2 = .pointer (some ⟨w2.heap.size,2,none⟩)) (q3:v 3 = chV t.Q0b) (q4:v 4 = .slice Au a.length capu) (q5:v 5 = chV (Q0t t.Q0b a 16)) (q6:v 6 = .slice Az b.length capz) (q7:v 7 = chV (Q0t (Q0t t.Q0b a 16) b 0)) (q8:v 8 = .agg (Q5o (Q7r t a b) (Q5n 16 t.size)));intro w2 hE;replace hE:(fun v w1 w'=>v 10 = .int .i64 0 ∧ Blk w' (w.heap.size + 1 + 1) 59 (Q5o (Q7r t a b) (Q5n 16 t.size)) ∧ Below w.heap.size w1 w') v w1 w2:=hE;simp only [Flow.acts,Act.put];go_simp;obtain ⟨hz9,hb8,hl8⟩:=hE;go_wp2;refine bodyPost_ret (Q0o Tryz.results45 rfl hb8 Tryz.Q5e Tryz.Q1v rfl) rfl ?_;exact ⟨by rw [HR.out,HE0.out]; simp [hz9]; rfl,Below.trans (HXX9.out.trans (hdr.trans hx)) hl8⟩
  · have HR:Hid (X1v t a b = ⟨0,0⟩):=by exact (by unfold X1v; rw [if_neg (by rw [HFIN.out]; exact hE0)]:X1v t a b = ⟨0,0⟩)
    have hne:(E != 0) = true:=by simp [hE0]
    clear hE0 c0 c1 c2 cz;go_wp2_with (refine Q0d rfl _ _ _ rfl Tryz.Q1v rfl rfl hbr rfl rfl ?_ ?_; (focus (exact Q7e ⟨0,0⟩)); intro w8 hb8 hl8 ho8);refine bodyPost_ret (Q0o Tryz.results45 rfl hb8 Tryz.Q5e Tryz.Q1v rfl) rfl ?_;exact ⟨by rw [HR.out,HFIN.out]; rfl,Below.trans HXX.out (hl8 _ (by omega))⟩
end Go.Proofs
