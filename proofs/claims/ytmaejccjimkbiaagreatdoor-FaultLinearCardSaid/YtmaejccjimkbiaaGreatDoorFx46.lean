/- Setting one event's chance: the weight with it sure is not less than with it out; the share of an event. Plain lists and sums. Minimal sets of a monotone property: each set that has it contains a minimal one, no minimal one contains another one; what this says about the cuts and paths of a tree. Plain law for FaultMonotone. What FaultMonotone looks at in the minimal sets of a valid tree of at most seven events. Plain law. Contracts: the reference's CheckCuts and ShortSets; the law's own function lists. Lists of lists: parts of them, copies of them that are the call's own, one appended to another. Contracts that the walks through the laws on minimal sets have in common. Contract: Tested. -/
import Derived.Test.YtmaejccjimkbiaaGreatDoorFx17
import Derived.Test.YtmaejccjimkbiaaGreatDoorFx25
import Derived.Test.YtmaejccjimkbiaaGreatDoorFx21
import Derived.Test.YtmaejccjimkbiaaGreatDoorFx31
import Derived.Test.YtmaejccjimkbiaaGreatDoorFx43
import Derived.Test.YtmaejccjimkbiaaGreatDoorFx09
import Derived.Test.YtmaejccjimkbiaaGreatDoorFx42
import Derived.Test.YtmaejccjimkbiaaGreatDoorFx08
import Derived.Test.YtmaejccjimkbiaaGreatDoorFx22
import Derived.Test.YtmaejccjimkbiaaGreatDoorFx36
import Derived.Test.YtmaejccjimkbiaaGreatDoorFx23
set_option linter.unusedVariables false
set_option linter.unusedSimpArgs false
set_option linter.constructorNameAsVariable false
namespace Go.Proofs
open Go.Tw
def LeB (l m:List Bool):Prop:=l.length = m.length ∧ ∀ i,bx l i = true → bx m i = true
theorem LeB.failing {l m:List Bool} (h:LeB l m) (inputs:List Int):failing l inputs ≤ failing m inputs:=by
 unfold Tw.failing;exact List.countP_mono_left fun x _ hx=>h.2 _ hx
end Go.Proofs
namespace Go.Proofs
open Go.Tw
def Z2u (a b:Nat):Prop:=∀ i,a.testBit i = true → b.testBit i = true
theorem Z2u.refl (a:Nat):Z2u a a:=fun _ h=>h
theorem Z2u.trans {a b c:Nat} (h:Z2u a b) (k:Z2u b c):Z2u a c:=fun i hi=>k i (h i hi)
theorem Z2u.clear (a b:Nat):Z2u (Q2u a b) a:=fun i hi=>by rw [Q4g,Bool.and_eq_true] at hi; exact hi.1
end Go.Proofs
namespace Go.Proofs
open Go.Tw
def Z3n (l m:List Int):Bool:=l.all fun x=>has m x
end Go.Proofs
namespace Go.Proofs
open Go.RowKit Go.Tw Go.Flow
theorem Y6n {w:World} {base:Nat} {T:TypeId} {v:Value} {vs:List Value} {ll:List (List Int)} (h:Q0q w base T idV v vs) (hlen:vs.length = ll.length) (hl:ll.length ≤ 2000) (hm:∀ j,j < ll.length → Q0q w 0 3 (.int .i64) (vs.getD j undef) (ll.getD j []) ∧ (ll.getD j []).length ≤ 1000):Q1w w v ll:=by
 have hr:=h.row (by omega) (fun j=>vs.getD j undef) (fun k hk=>by simp [hk,idV])
 rw [hlen] at hr;refine ⟨fun j=>vs.getD j undef,hr,fun j hj=>?_⟩;obtain ⟨h1,h2⟩:=hm j hj;have:=h1.ints (by omega)
 rw [Q3u _ hj] at this
 simpa using this
end Go.Proofs
namespace Go.Proofs
open Go.RowKit Go.Tw Go.Flow
def X5m (B:Nat) (w:World) (v:Value) (ll:List (List Int)):Prop:=∃ vs:List Value,vs.length = ll.length ∧ Q0q w B 39 idV v vs ∧ ∀ j,j < ll.length → Q0q w 0 3 (.int .i64) (vs.getD j undef) (ll.getD j [])
theorem X5m.ext {B:Nat} {w w':World} {v:Value} {ll:List (List Int)} (h:X5m B w v ll) (hx:Ext w w'):X5m B w' v ll :=
 let ⟨vs,h1,h2,h3⟩:=h; ⟨vs,h1,h2.below hx,fun j hj=>(h3 j hj).below hx⟩
theorem X5m.read {B:Nat} {w:World} {v:Value} {ll:List (List Int)} (h:X5m B w v ll) (hl:ll.length ≤ 2000) (hs:∀ j,j < ll.length → (ll.getD j []).length ≤ 1000):Q1w w v ll :=
 let ⟨_,h1,h2,h3⟩:=h; Y6n h2 h1 hl fun j hj=>⟨h3 j hj,hs j hj⟩
theorem X5m.shape {B:Nat} {w:World} {v:Value} {ll:List (List Int)} (h:X5m B w v ll):∃ b c,v = .slice b ll.length c ∧ ll.length ≤ c:=by
 obtain ⟨vs,h1,h2,_⟩:=h;rw [← h1];exact h2.shape
end Go.Proofs
namespace Go.Proofs
open Go.RowKit Go.Tw Go.Flow
structure Z6h (t:Tree) (L:List (List Int)):Prop where
 le:L.length ≤ 35
 each:∀ k,k < L.length → (L.getD k []).length ≤ 7 ∧ Q1h (L.getD k []) t.size = 0
 apart:∀ i k,i < L.length → k < L.length → k ≠ i → Z3n (L.getD k []) (L.getD i []) = false
end Go.Proofs
namespace Go.Proofs
open Go.RowKit Go.Tw Go.Flow
def Q4o (t:Tree) (n c:Int):Int:=Q0h [Q0i t [n],Q0m c 0 16]
def Q3c (t:Tree) (k:Nat) (c:Int):Tree :=
 if k < t.basics.length then ⟨t.basics.set k ⟨bName t.basics k,c⟩,t.causes,t.gates⟩
 else ⟨t.basics,t.causes.set (k - t.basics.length) ⟨cName t.causes (k - t.basics.length),c,Q0c t.causes (k - t.basics.length)⟩,t.gates⟩
def Q4t (t:Tree) (n c:Int):Tree:=if Q4o t n c = 0 then Q3c t n.toNat c else ⟨[],[],[]⟩
theorem Q6y {α:Type} [Inhabited α] (l:List α) (k i:Nat) (x:α) (hi:i < l.length):(l.set k x).getD i default = if i = k then x else l.getD i default:=by
 rw [List.getD_eq_getElem?_getD,List.getElem?_set]
 by_cases h:k = i
 · subst h; simp [hi]
 · rw [if_neg h,if_neg (fun e=>h e.symm)]; simp
def bT (t:Tree) (k:Nat) (c:Int) (i:Nat):ByteArray × Int:=if i = k then (bName t.basics k,c) else bF t i
def cT (t:Tree) (mc:Nat → Value) (k:Nat) (c:Int) (i:Nat):ByteArray × Int × Value:=if i = k then (cName t.causes k,c,mc k) else cF t mc i
set_option maxRecDepth 100000 in
set_option maxHeartbeats 4000000 in
theorem Y2d (w:World) (v:Value) (t:Tree) (n c:Int) (ht:IsTree w v t) :
    Calls Tryz.prog 34 #[v,.int .i64 n,.int .i64 c] w fun e w'=>∃ u,e = .returned (.tuple #[u,.int .i64 (Q4o t n c)]) ∧ Q0v 37 w' u (Q4t t n c) ∧ Ext w w':=by
 obtain ⟨a,b,c,rfl,h3⟩:=ht;obtain ⟨A,capa,rfl,hl1,hcap1,_⟩:=h3.basics.opened;obtain ⟨B,capb,rfl,hl2,hcap2,_⟩:=h3.causes.opened;obtain ⟨G,capg,rfl,hl3,hcap3,_⟩:=h3.gates.opened;have HT0:=Lib.hid h3;clear h3;go_enter Tryz.func34,Tryz.ntmps34;go_wp2_with fail;change Calls _ _ _ ((w.alloc (.cells #[.slice A t.basics.length capa,.slice B t.causes.length capb,.slice G t.gates.length capg] 37)).alloc (.cells #[.slice none 0 0,.slice none 0 0,.slice none 0 0] 37)) _;have k0:=Blk.made w 37 #[.slice A t.basics.length capa,.slice B t.causes.length capb,.slice G t.gates.length capg];have x0:=Ext.box w (.cells #[.slice A t.basics.length capa,.slice B t.causes.length capb,.slice G t.gates.length capg] 37);have es0:(w.alloc (.cells #[.slice A t.basics.length capa,.slice B t.causes.length capb,.slice G t.gates.length capg] 37)).heap.size = w.heap.size + 1:=by simp
 obtain ⟨X0,hX0⟩:∃ X,w.alloc (.cells #[.slice A t.basics.length capa,.slice B t.causes.length capb,.slice G t.gates.length capg] 37) = X:=⟨_,rfl⟩;rw [hX0] at k0 x0 es0 ⊢;clear hX0;have k1:=Blk.made X0 37 #[.slice none 0 0,.slice none 0 0,.slice none 0 0];have x1:=Ext.box X0 (.cells #[.slice none 0 0,.slice none 0 0,.slice none 0 0] 37);have es1:(X0.alloc (.cells #[.slice none 0 0,.slice none 0 0,.slice none 0 0] 37)).heap.size = X0.heap.size + 1:=by simp
 obtain ⟨X1,hX1⟩:∃ X,X0.alloc (.cells #[.slice none 0 0,.slice none 0 0,.slice none 0 0] 37) = X:=⟨_,rfl⟩;rw [hX1] at k1 x1 es1 ⊢;clear hX1;replace k0:=k0.ext x1;have e0:X0.heap.size = w.heap.size + 1:=by omega
 have e1:X1.heap.size = w.heap.size + 1 + 1:=by omega
 rw [e0] at k1;have HXW:Hid (Ext w X1):=by exact (Ext.trans (x0) x1:Ext w X1)
 have eW:X1.heap.size = w.heap.size + 1 + 1:=e1;clear x0 es0 e0 x1 es1 e1;obtain ⟨W,hWW⟩:∃ W,X1 = W:=⟨_,rfl⟩;rw [hWW] at HXW eW ⊢ k0 k1;clear hWW;have HT:=Lib.hid (HT0.out.ext HXW.out);refine (Q5f _ _ t n ⟨_,_,_,rfl,HT.out⟩).mono ?_;rintro e w1 ⟨rfl,hx1⟩;have HX1:=Lib.hid (HXW.out.trans hx1);have hbr:=k1.ext hx1;have K0:=Lib.hid (k0.ext hx1);replace HT:=Lib.hid (HT.out.ext hx1);clear k0 k1 hx1;obtain ⟨E1,hE1⟩:∃ E,Q0i t [n] = E:=⟨_,rfl⟩;obtain ⟨E2,hE2⟩:∃ E,Q0m c 0 16 = E:=⟨_,rfl⟩;obtain ⟨E,hE⟩:∃ E,Q4o t n c = E:=⟨_,rfl⟩;have HE1:=Lib.hid hE1;have HE:=Lib.hid hE;have HFE:Hid (Q0h [E1,E2] = E):=by exact (by rw [← hE,← hE1,← hE2]; rfl:Q0h [E1,E2] = E)
 rw [hE1];have HWR:Hid (∀ w',Calls Tryz.prog 89 #[.int .i64 c,.int .i64 0,.int .i64 16] w' fun e w''=>e = .returned (.int .i64 E2) ∧ w' = w''):=by
  exact (fun w'=>by rw [← hE2]; exact Q8h w' c 0 16:∀ w',Calls Tryz.prog 89 #[.int .i64 c,.int .i64 0,.int .i64 16] w' fun e w''=>e = .returned (.int .i64 E2) ∧ w' = w'')
 have HF:Hid (∀ (w':World) (u:Value),Q0f w' u [E1,E2] → Calls Tryz.prog 74 #[u] w' fun e w''=>e = .returned (.int .i64 E) ∧ w' = w''):=by
  exact (by intro w' u h; rw [← HFE.out]; exact first_any _ _ _ h:∀ (w':World) (u:Value),Q0f w' u [E1,E2] → Calls Tryz.prog 74 #[u] w' fun e w''=>e = .returned (.int .i64 E) ∧ w' = w'')
 clear hE hE1 hE2;go_wp2_with fail;refine (HWR.out _).mono ?_;rintro e w2 ⟨rfl,rfl⟩;go_wp2_with fail;refine (HF.out _ _ (Q2m (l:=[E1,E2]) (by simp))).mono ?_
 rintro e w3 ⟨rfl,hw3⟩;have hx3:Ext w1 w3:=by rw [← hw3]; exact Ext.box w1 _
 clear hw3;replace HX1:=Lib.hid (HX1.out.trans hx3);replace hbr:=hbr.ext hx3;replace K0:=Lib.hid (K0.out.ext hx3);replace HT:=Lib.hid (HT.out.ext hx3);clear hx3
 by_cases hE0:E = 0
 · have hne:(E != 0) = false:=by simp [hE0]
   have h12:=HFE.out.trans hE0;rw [Q1k] at h12;have h1:Q0i t [n] = 0:=HE1.out.trans (h12 E1 (by simp))
   have het:t.err = 0:=by
    unfold Q0i at h1
    by_cases h:t.err = 0
    · exact h
    · rw [if_neg h] at h1; exact absurd h1 h
   have hn:0 ≤ n ∧ n < t.size:=by
    unfold Q0i at h1;rw [if_pos het] at h1;exact (Q2n h1).1 n (by simp)
   obtain ⟨kn,rfl⟩:∃ k:Nat,n = k:=⟨n.toNat,by omega⟩
   have hkn:kn < t.basics.length + t.causes.length:=by have:=hn.2; unfold Tree.size at this; omega
   have HTT:Hid (Q4t t (kn:Int) c = Q3c t kn c):=by exact (by unfold Q4t; rw [if_pos (HE.out.trans hE0)]; rfl:Q4t t (kn:Int) c = Q3c t kn c)
   have HEE:Hid (Q4o t (kn:Int) c = 0):=Lib.hid (HE.out.trans hE0);have HV:=Lib.hid (Valid.of het);have hfit:=HV.out.fit;clear hE0 h12 h1 het hn;go_wp2_with (refine Q0j rfl _ 37 rfl Tryz.Q2v Tryz.Q0w rfl K0.out rfl ?_);have hs3:=HX1.out.size;refine (X1z _ _ t hfit.nb hfit.nc hfit.ng ⟨_,_,_,rfl,HT.out⟩).mono ?_;rintro e w4 ⟨gb,gc,gg,mc,mg,rfl,hown,hx4⟩;have HOWN:=Lib.hid hown;replace HX1:=Lib.hid (HX1.out.trans hx4);have HBR:=Lib.hid (hbr.ext hx4);replace K0:=Lib.hid (K0.out.ext hx4);replace HT:=Lib.hid (HT.out.ext hx4);clear hown hx4 hbr;go_wp2_with (refine Q0d rfl _ _ 37 rfl Tryz.Q0w rfl rfl (Blk.made _ _ _) rfl rfl ?_ ?_; (focus (intro u hu; simp only [List.mem_cons,List.not_mem_nil,or_false] at hu; rcases hu with rfl | rfl | rfl <;> rfl)); intro w5 hb5 hl5 ho5; refine halted ?_)
   have hx5:Ext w4 w5:=Below.trans (Ext.box w4 _) (hl5 _ (Nat.le_refl _));replace HX1:=Lib.hid (HX1.out.trans hx5);replace HOWN:=Lib.hid (HOWN.out.ext hx5);replace HT:=Lib.hid (HT.out.ext hx5);replace K0:=Lib.hid (K0.out.ext hx5);have HB5:=Lib.hid hb5;replace HBR:=Lib.hid (HBR.out.ext hx5);have c0:=K0.out.cell 0;simp only [List.getElem?_toArray,List.getElem?_cons_zero] at c0;have d0:=hb5.cell 0;have d1:=hb5.cell 1;simp only [List.getElem?_toArray,List.getElem?_cons_zero,List.getElem?_cons_succ] at d0 d1;clear hb5 hl5 ho5 hx5;unfold Q3f;have hwr:IntKind.i64.wrap ((kn:Int) - (t.basics.length:Int)) = (kn:Int) - t.basics.length:=wrap_in (by omega) (by omega)
   have hgb:=HOWN.out.b;have hgc:=HOWN.out.c
   by_cases hlt:kn < t.basics.length
   · have hneg:¬ (0:Int) ≤ (kn:Int) - t.basics.length:=by omega
     have hkI:(kn:Int) < t.basics.length:=by omega
     go_wp2_with (refine Q1b rfl _ _ 3 rfl Tryz.X9b (u:=.int .i64 c) (g:=gb) (k:=kn * 2 + 1) rfl rfl rfl rfl HOWN.out.bas (by rw [Q1c Q3j]; omega) ?_; intro w6 hb6 hl6 ho6; refine halted ?_)
     rw [X5f (bF t) (bT t kn c) (r:=1) hlt (by decide) (by unfold bT; rw [if_pos rfl]; rfl) (fun j hj=>by unfold bT; rw [if_neg hj])] at hb6
     have HBB:=Lib.hid hb6;have HBC:=Lib.hid (HOWN.out.cau.only (Q1i HOWN.out.cau HOWN.out.bas (by decide)) ho6)
     have HBG:=Lib.hid (HOWN.out.gat.only (Q1i HOWN.out.gat HOWN.out.bas (by decide)) ho6)
     have HM:Hid (∀ i,i < t.causes.length → Q0q w6 0 3 (.int .i64) (mc i) (Q0c t.causes i)):=by exact (fun i hi=>Q2e (HOWN.out.mem i hi) HOWN.out.bas (by decide) ho6:∀ i,i < t.causes.length → Q0q w6 0 3 (.int .i64) (mc i) (Q0c t.causes i))
     have HI:Hid (∀ i,i < t.gates.length → Q0q w6 0 3 (.int .i64) (mg i) (Q0l t.gates i)):=by exact (fun i hi=>Q2e (HOWN.out.inp i hi) HOWN.out.bas (by decide) ho6:∀ i,i < t.gates.length → Q0q w6 0 3 (.int .i64) (mg i) (Q0l t.gates i))
     have HB6:=Lib.hid (HB5.out.only (Q1i HB5.out HOWN.out.bas (by decide)) ho6)
     have HBR6:=Lib.hid (HBR.out.only (Q1i HBR.out HOWN.out.bas (by decide)) ho6)
     have HX6:Hid (Ext w w6):=by exact (Below.trans HX1.out (hl6 w.heap.size (by omega)):Ext w w6)
     have HTO:Hid (Q3c t kn c = ⟨t.basics.set kn ⟨bName t.basics kn,c⟩,t.causes,t.gates⟩):=by exact (by unfold Q3c; rw [if_pos hlt]:Q3c t kn c = _)
     clear hb6 hl6 ho6 c0 d0 d1;unfold Q3f;go_wp2_with (first | (refine Q0j rfl _ 37 rfl Tryz.Q2v Tryz.Q0w rfl HB6.out rfl ?_) | (refine Q0d rfl _ _ 37 rfl Tryz.Q0w rfl rfl HBR6.out rfl rfl ?_ ?_; (focus (intro u hu; simp only [List.mem_cons,List.not_mem_nil,or_false] at hu; rcases hu with rfl | rfl | rfl <;> rfl)); intro w8 hb8 hl8 ho8))
     have f1:=HBB.out.only (Q1i HBB.out HBR6.out (by decide)) ho8
     have f2:=HBC.out.only (Q1i HBC.out HBR6.out (by decide)) ho8
     have f3:=HBG.out.only (Q1i HBG.out HBR6.out (by decide)) ho8
     refine bodyPost_ret (Q0o Tryz.results34 rfl hb8 Tryz.Q2v Tryz.Q0w rfl) rfl ?_;refine ⟨_,by rw [HEE.out]; rfl,?_,Below.trans HX6.out (hl8 _ (by omega))⟩
     rw [HTT.out,HTO.out];intro wm hwm w9 ho9;replace f1:=X7z (f1.ext hwm) (by decide) ho9
     replace f2:=X7z (f2.ext hwm) (by decide) ho9
     replace f3:=X7z (f3.ext hwm) (by decide) ho9
     have HM8:∀ i,i < t.causes.length → Q0f w9 (mc i) (Q0c t.causes i):=fun i hi=>(Y5k ((Q2e (HM.out i hi) HBR6.out (by decide) ho8).below hwm) (by decide) ho9).ints (HT.out.causes.short hi).2
     have HI8:∀ i,i < t.gates.length → Q0f w9 (mg i) (Q0l t.gates i):=fun i hi=>(Y5k ((Q2e (HI.out i hi) HBR6.out (by decide) ho8).below hwm) (by decide) ho9).ints (HT.out.gates.short hi).2
     refine ⟨_,_,_,rfl,⟨?_,?_,?_⟩⟩
     · have hle:(t.basics.set kn ⟨bName t.basics kn,c⟩).length = t.basics.length:=List.length_set
       have:=Q6t (l:=t.basics.set kn ⟨bName t.basics kn,c⟩) f1 (by omega) (by have:=hfit.nb; omega) fun i hi=>by
        rw [hle] at hi;unfold bName Q1l;rw [Q6y _ _ _ _ hi];unfold bT
        by_cases h:i = kn
        · subst h; rw [if_pos rfl,if_pos rfl]; exact ⟨rfl,HT.out.basics.short hi⟩
        · rw [if_neg h,if_neg h]; exact ⟨rfl,HT.out.basics.short hi⟩
       rw [hle] at this;exact this
     · exact Q6n f2 (Nat.le_refl _) hfit.nc fun i hi=>⟨_,rfl,HM8 i hi,(HT.out.causes.short hi).1⟩
     · exact Q8b f3 (Nat.le_refl _) hfit.ng fun i hi=>⟨_,rfl,HI8 i hi,(HT.out.gates.short hi).1⟩
   · obtain ⟨m,rfl⟩:∃ m,kn = t.basics.length + m:=⟨kn - t.basics.length,by omega⟩
     have hm:m < t.causes.length:=by omega
     have e1:((t.basics.length + m:Nat):Int) - (t.basics.length:Int) = (m:Int):=by omega
     rw [e1] at hwr;have hmI:(m:Int) < t.causes.length:=by omega
     go_wp2_with (refine Q1b rfl _ _ 3 rfl Tryz.X9b (u:=.int .i64 c) (g:=gc) (k:=m * 3 + 1) rfl rfl rfl rfl HOWN.out.cau (by rw [Q1c Q0s]; omega) ?_; intro w6 hb6 hl6 ho6; refine halted ?_)
     rw [Q8r (cF t mc) (cT t mc m c) (r:=1) hm (by decide) (by unfold cT; rw [if_pos rfl]; rfl) (fun j hj=>by unfold cT; rw [if_neg hj])] at hb6
     have HBC:=Lib.hid hb6;have HBB:=Lib.hid (HOWN.out.bas.only (Q1i HOWN.out.bas HOWN.out.cau (by decide)) ho6)
     have HBG:=Lib.hid (HOWN.out.gat.only (Q1i HOWN.out.gat HOWN.out.cau (by decide)) ho6)
     have HM:Hid (∀ i,i < t.causes.length → Q0q w6 0 3 (.int .i64) (mc i) (Q0c t.causes i)):=by exact (fun i hi=>Q2e (HOWN.out.mem i hi) HOWN.out.cau (by decide) ho6:∀ i,i < t.causes.length → Q0q w6 0 3 (.int .i64) (mc i) (Q0c t.causes i))
     have HI:Hid (∀ i,i < t.gates.length → Q0q w6 0 3 (.int .i64) (mg i) (Q0l t.gates i)):=by exact (fun i hi=>Q2e (HOWN.out.inp i hi) HOWN.out.cau (by decide) ho6:∀ i,i < t.gates.length → Q0q w6 0 3 (.int .i64) (mg i) (Q0l t.gates i))
     have HB6:=Lib.hid (HB5.out.only (Q1i HB5.out HOWN.out.cau (by decide)) ho6)
     have HBR6:=Lib.hid (HBR.out.only (Q1i HBR.out HOWN.out.cau (by decide)) ho6)
     have HX6:Hid (Ext w w6):=by exact (Below.trans HX1.out (hl6 w.heap.size (by omega)):Ext w w6)
     have HTO:Hid (Q3c t (t.basics.length + m) c = ⟨t.basics,t.causes.set m ⟨cName t.causes m,c,Q0c t.causes m⟩,t.gates⟩):=by exact (by unfold Q3c; rw [if_neg hlt,Nat.add_sub_cancel_left]:Q3c t (t.basics.length + m) c = _)
     clear hb6 hl6 ho6 c0 d0 d1;unfold Q3f;go_wp2_with (first | (refine Q0j rfl _ 37 rfl Tryz.Q2v Tryz.Q0w rfl HB6.out rfl ?_) | (refine Q0d rfl _ _ 37 rfl Tryz.Q0w rfl rfl HBR6.out rfl rfl ?_ ?_; (focus (intro u hu; simp only [List.mem_cons,List.not_mem_nil,or_false] at hu; rcases hu with rfl | rfl | rfl <;> rfl)); intro w8 hb8 hl8 ho8))
     have f1:=HBB.out.only (Q1i HBB.out HBR6.out (by decide)) ho8
     have f2:=HBC.out.only (Q1i HBC.out HBR6.out (by decide)) ho8
     have f3:=HBG.out.only (Q1i HBG.out HBR6.out (by decide)) ho8
     refine bodyPost_ret (Q0o Tryz.results34 rfl hb8 Tryz.Q2v Tryz.Q0w rfl) rfl ?_;refine ⟨_,by rw [HEE.out]; rfl,?_,Below.trans HX6.out (hl8 _ (by omega))⟩
     rw [HTT.out,HTO.out];intro wm hwm w9 ho9;replace f1:=X7z (f1.ext hwm) (by decide) ho9
     replace f2:=X7z (f2.ext hwm) (by decide) ho9
     replace f3:=X7z (f3.ext hwm) (by decide) ho9
     have HM8:∀ i,i < t.causes.length → Q0f w9 (mc i) (Q0c t.causes i):=fun i hi=>(Y5k ((Q2e (HM.out i hi) HBR6.out (by decide) ho8).below hwm) (by decide) ho9).ints (HT.out.causes.short hi).2
     have HI8:∀ i,i < t.gates.length → Q0f w9 (mg i) (Q0l t.gates i):=fun i hi=>(Y5k ((Q2e (HI.out i hi) HBR6.out (by decide) ho8).below hwm) (by decide) ho9).ints (HT.out.gates.short hi).2
     refine ⟨_,_,_,rfl,⟨?_,?_,?_⟩⟩
     · exact Q6t f1 (Nat.le_refl _) hfit.nb fun i hi=>⟨rfl,HT.out.basics.short hi⟩
     · have hle:(t.causes.set m ⟨cName t.causes m,c,Q0c t.causes m⟩).length = t.causes.length:=List.length_set
       have:=Q6n (l:=t.causes.set m ⟨cName t.causes m,c,Q0c t.causes m⟩) f2 (by omega) (by have:=hfit.nc; omega) fun i hi=>by
        rw [hle] at hi;unfold cName Q1d Q0c;rw [Q6y _ _ _ _ hi];unfold cT
        by_cases h:i = m
        · subst h; rw [if_pos rfl,if_pos rfl]; exact ⟨_,rfl,HM8 i hi,(HT.out.causes.short hi).1⟩
        · rw [if_neg h,if_neg h]; exact ⟨_,rfl,HM8 i hi,(HT.out.causes.short hi).1⟩
       rw [hle] at this;exact this
     · exact Q8b f3 (Nat.le_refl _) hfit.ng fun i hi=>⟨_,rfl,HI8 i hi,(HT.out.gates.short hi).1⟩
 · have hne:(E != 0) = true:=by simp [hE0]
   have HZT:Hid (Q4t t n c = ⟨[],[],[]⟩):=by exact (by unfold Q4t; rw [if_neg (by rw [HE.out]; exact hE0)]:Q4t t n c = ⟨[],[],[]⟩)
   clear hE0;go_wp2_with (refine Q0d rfl _ _ 37 rfl Tryz.Q0w rfl rfl hbr rfl rfl ?_ ?_; (focus (intro u hu; simp only [List.mem_cons,List.not_mem_nil,or_false] at hu; rcases hu with rfl | rfl | rfl <;> rfl)); intro w8 hb8 hl8 ho8)
   refine bodyPost_ret (Q0o Tryz.results34 rfl hb8 Tryz.Q2v Tryz.Q0w rfl) rfl ?_;refine ⟨_,by rw [HE.out]; rfl,?_,Below.trans HX1.out (hl8 _ (by omega))⟩
   rw [HZT.out];exact fun _ _ _ _=>Q7a _
end Go.Proofs
