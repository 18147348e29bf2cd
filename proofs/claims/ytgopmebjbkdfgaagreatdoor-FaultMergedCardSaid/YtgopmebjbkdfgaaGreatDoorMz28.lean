/- The values of the program's functions at the document's tree, and their contracts there. Contract of the law's own function: awake. The program's weight of a tree is the reference's: plain sums. -/
import Derived.Test.YtgopmebjbkdfgaaGreatDoorMz27
import Derived.Test.YtgopmebjbkdfgaaGreatDoorMz19
import Derived.Test.YtgopmebjbkdfgaaGreatDoorMz11
set_option maxRecDepth 1000000
set_option maxHeartbeats 64000000
set_option linter.unusedVariables false
set_option linter.unusedSimpArgs false
set_option linter.constructorNameAsVariable false
namespace Go.Proofs
open Go.RowKit Go.Tw Go.Flow
def gA:Gate:=⟨Q4v,0,[0,1]⟩
def gO:Gate:=⟨sOr,0,[2,3]⟩
def Q5e:Tree:=⟨[⟨ch1 112,8⟩,⟨ch1 113,4⟩,⟨ch1 114,8⟩],[],[⟨Q4v,0,[0,1]⟩,⟨sOr,0,[2,3]⟩]⟩
def Q7l:Tree:=⟨[⟨ch1 112,8⟩,⟨ch1 113,12⟩,⟨ch1 114,8⟩],[],[⟨sOr,0,[0,1]⟩,⟨Q4v,0,[2,3]⟩]⟩
def Z5y:ByteArray:=⟨#[98,97,115,105,99,32,112,32,56,10,98,97,115,105,99,32,113,32,52,10,98,97,115,105,99,32,114,32,56,10,99,97,117,115,101,32,115,32,49,32,48,32,49,10,103,97,116,101,32,97,110,100,32,48,32,48,32,49,10,103,97,116,101,32,111,114,32,48,32,50,32,51,10]⟩
theorem Z4e:Q0q.err = 0:=by kernel_rfl
theorem Z9y:X2q Q0q [0,1] = true:=by kernel_rfl
theorem Z8w:X2q Q0q [0] = false:=by kernel_rfl
theorem J3o:Q0l Q0q [0,1] = 0:=by kernel_rfl
theorem J5p:Q0l Q0q [0] = 0:=by kernel_rfl
theorem J4v:Q0l Q0q [3] = 0:=by kernel_rfl
theorem J2a:Q0l Q0q [2] = 0:=by kernel_rfl
theorem J0q:X3f Q0q [3] = [true,true,false,true,true]:=by kernel_rfl
theorem J4p:X3m Q0q false = [[2],[3],[0,1]]:=by kernel_rfl
theorem J2p:X3m Q0q true = [[0,2,3],[1,2,3]]:=by kernel_rfl
theorem J1a:singleR Q0q = [2,3]:=by kernel_rfl
theorem Z8q:Q9i Q0q = ⟨151,256⟩:=by kernel_rfl
theorem J0h:X4i Q0q [2] [] = ⟨1,1⟩:=by kernel_rfl
theorem Z6g:Q6j Q0q [2] [] = 0:=by kernel_rfl
theorem Z9j:X4i Q0q [] [2] = ⟨23,128⟩:=by kernel_rfl
theorem Z5h:Q6j Q0q [] [2] = 0:=by kernel_rfl
theorem J6v:Q6u Q0q 2 = ⟨105,128⟩:=by kernel_rfl
theorem J5k:decide (0 <= J2s Q0q 2) = true:=by kernel_rfl
theorem J3j:Y1h Q0q 2 = ⟨128,151⟩:=by kernel_rfl
theorem Z8j:X2j Q0q 2 = 0:=by kernel_rfl
theorem J6a:Q9v Q0q 2 = 3:=by kernel_rfl
theorem J2n:Y1r Q0q = ⟨11,16⟩:=by kernel_rfl
theorem J7k:Y4p Q0q [[2],[0,1]] [[0,2,3],[1,2,3]] = 22:=by kernel_rfl
theorem J5h:Q3g Q0q [16,4,8,1] = 0:=by kernel_rfl
theorem J6s:Z8i Q0q [16,4,8,1] = ⟨151,256⟩:=by kernel_rfl
theorem J5z:X9z Q0q [16,4,8,1] = ⟨83,128⟩:=by kernel_rfl
theorem J2j:X5c Q0q = 0:=by kernel_rfl
theorem J2d:Y1s Q0q = 2:=by kernel_rfl
theorem J3i:nextR Q0q = ⟨23,128⟩:=by kernel_rfl
theorem J6h:Q3f Q0q 0 = 0:=by kernel_rfl
theorem J6t:Q4j Q0q 0 = Q5e:=by kernel_rfl
theorem J4s:Q5e.err = 0:=by kernel_rfl
theorem Z4q:Q9i Q5e = ⟨9,16⟩:=by kernel_rfl
theorem J3v:X5l Q5e = 0:=by kernel_rfl
theorem J3x:Z3x Q5e = Q7l:=by kernel_rfl
theorem J4y:Q7l.err = 0:=by kernel_rfl
theorem Z7y:Q9i Q7l = ⟨7,16⟩:=by kernel_rfl
theorem J2e:X7v Q0q = Z5y:=by kernel_rfl
theorem Z9t (w:World) (u v:Value) (hu:IsTree w u Q0q) (hv:Q0f w v [0,1]) :
    Calls Tryz.prog 31 #[u,v] w fun e w'=>e = .returned (.tuple #[.bool true,.int .i64 0]) /\ Ext w w':=by
 have h:=Y0t w u v Q0q [0,1] hu hv;rw [Z9y,J3o] at h;exact h
theorem J1h (w:World) (u v:Value) (hu:IsTree w u Q0q) (hv:Q0f w v [0]) :
    Calls Tryz.prog 31 #[u,v] w fun e w'=>e = .returned (.tuple #[.bool false,.int .i64 0]) /\ Ext w w':=by
 have h:=Y0t w u v Q0q [0] hu hv;rw [Z8w,J5p] at h;exact h
theorem J1b (w:World) (u v:Value) (hu:IsTree w u Q0q) (hv:Q0f w v [3]) :
    Calls Tryz.prog 33 #[u,v] w fun e w'=>∃ x,e = .returned (.tuple #[x,.int .i64 0]) /\ Q6f w' x [true,true,false,true,true] /\ Ext w w':=by
 have h:=Y7l w u v Q0q [3] hu hv;rw [J0q,J4v] at h;exact h
theorem J4g (w:World) (u:Value) (hu:IsTree w u Q0q) (hT:Tab w) :
    Calls Tryz.prog 20 #[u] w fun e w'=>∃ x,e = .returned (.tuple #[x,.int .i64 0]) /\ Q1t w' x [[2],[3],[0,1]] /\ Ext w w':=by
 have h:=Y4e w u Q0q hu hT;rw [J4p,Z4e] at h;exact h
theorem J2r (w:World) (u:Value) (hu:IsTree w u Q0q) (hT:Tab w) :
    Calls Tryz.prog 34 #[u] w fun e w'=>∃ x,e = .returned (.tuple #[x,.int .i64 0]) /\ Q1t w' x [[0,2,3],[1,2,3]] /\ Ext w w':=by
 have h:=Y0s w u Q0q hu hT;rw [J2p,Z4e] at h;exact h
theorem J0s (w:World) (u:Value) (hu:IsTree w u Q0q) :
    Calls Tryz.prog 35 #[u] w fun e w'=>∃ x,e = .returned (.tuple #[x,.int .i64 0]) /\ Q0f w' x [2,3] /\ Ext w w':=by
 have h:=Y6u w u Q0q hu;rw [J1a,Z4e] at h;exact h
theorem Z8n (w:World) (u:Value) (hu:IsTree w u Q0q) :
    Calls Tryz.prog 19 #[u] w fun e w'=>e = .returned (.tuple #[.agg #[.int .i64 151,.int .i64 256],.int .i64 0]) /\ Ext w w':=by
 have h:=X0i w u Q0q hu;rw [Z8q,Z4e] at h;exact h
theorem J1m (w:World) (u v z:Value) (hu:IsTree w u Q0q) (hv:Q0f w v [2]) (hz:Q0f w z []) :
    Calls Tryz.prog 24 #[u,v,z] w fun e w'=>e = .returned (.tuple #[.agg #[.int .i64 1,.int .i64 1],.int .i64 0]) /\ Ext w w':=by
 have h:=X4u w u v z Q0q [2] [] hu hv hz;rw [J0h,Z6g] at h;exact h
theorem J0g (w:World) (u v z:Value) (hu:IsTree w u Q0q) (hv:Q0f w v []) (hz:Q0f w z [2]) :
    Calls Tryz.prog 24 #[u,v,z] w fun e w'=>e = .returned (.tuple #[.agg #[.int .i64 23,.int .i64 128],.int .i64 0]) /\ Ext w w':=by
 have h:=X4u w u v z Q0q [] [2] hu hv hz;rw [Z9j,Z5h] at h;exact h
theorem J6x (w:World) (u:Value) (hu:IsTree w u Q0q) :
    Calls Tryz.prog 36 #[u,.int .i64 2] w fun e w'=>e = .returned (.tuple #[.agg #[.int .i64 105,.int .i64 128],.int .i64 0]) /\ Ext w w':=by
 have h:=X9q w u Q0q 2 hu (fun _=>of_decide_eq_true J5k);rw [J6v,J2a] at h;exact h
theorem J3r (w:World) (u:Value) (hu:IsTree w u Q0q) :
    Calls Tryz.prog 37 #[u,.int .i64 2] w fun e w'=>e = .returned (.tuple #[.agg #[.int .i64 128,.int .i64 151],.int .i64 0]) /\ Ext w w':=by
 have h:=Z3v w u Q0q 2 hu;rw [J3j,Z8j] at h;exact h
theorem J6d (w:World) (u:Value) (hu:IsTree w u Q0q) :
    Calls Tryz.prog 38 #[u,.int .i64 2] w fun e w'=>e = .returned (.tuple #[.int .i64 3,.int .i64 0]) /\ Ext w w':=by
 have h:=Y2q w u Q0q 2 hu;rw [J6a,J2a] at h;exact h
theorem J3t (w:World) (u:Value) (hu:IsTree w u Q0q) (hT:Tab w) :
    Calls Tryz.prog 39 #[u] w fun e w'=>e = .returned (.tuple #[.agg #[.int .i64 11,.int .i64 16],.int .i64 0]) /\ Ext w w':=by
 have h:=Z3s w u Q0q hu hT;rw [J2n,Z4e] at h;exact h
theorem J7h (w:World) (u v z:Value) (hu:IsTree w u Q0q) (hv:Q1t w v [[2],[0,1]]) (hz:Q1t w z [[0,2,3],[1,2,3]]) :
    Calls Tryz.prog 43 #[u,v,z] w fun e w'=>e = .returned (.int .i64 22) /\ Ext w w':=by
 have h:=Y0a w u v z Q0q _ _ hu hv hz;rw [J7k] at h;exact h
theorem Z2m (w:World) (u v:Value) (hu:IsTree w u Q0q) (hv:Q0f w v [16,4,8,1]) :
    Calls Tryz.prog 44 #[u,v] w fun e w'=>e = .returned (.tuple #[.agg #[.int .i64 151,.int .i64 256,.int .i64 83,.int .i64 128],.int .i64 0]) /\ Ext w w':=by
 have h:=Y2n w u v Q0q _ hu hv;rw [J6s,J5z,J5h] at h;exact h
theorem J4w (w:World) (u:Value) (hu:IsTree w u Q0q) :
    Calls Tryz.prog 45 #[u] w fun e w'=>e = .returned (.tuple #[.int .i64 2,.agg #[.int .i64 23,.int .i64 128],.int .i64 0]) /\ Ext w w':=by
 have h:=Z4o w u Q0q hu;rw [J2d,J3i,J2j] at h;exact h
theorem Z7l (w:World) (u:Value) (hu:IsTree w u Q0q) :
    Calls Tryz.prog 23 #[u,.int .i64 0] w fun e w'=>∃ x,e = .returned (.tuple #[x,.int .i64 0]) /\ IsTree w' x Q5e /\ Ext w w':=by
 have h:=X6m w u Q0q 0 hu (by omega) (by omega)
 rw [J6h,J6t] at h;exact h
theorem Z5u (w:World) (u:Value) (hu:IsTree w u Q5e) :
    Calls Tryz.prog 19 #[u] w fun e w'=>e = .returned (.tuple #[.agg #[.int .i64 9,.int .i64 16],.int .i64 0]) /\ Ext w w':=by
 have h:=X0i w u Q5e hu;rw [Z4q,J4s] at h;exact h
theorem J5u (w:World) (u:Value) (hu:IsTree w u Q5e) :
    Calls Tryz.prog 46 #[u] w fun e w'=>∃ x,e = .returned (.tuple #[x,.int .i64 0]) /\ IsTree w' x Q7l /\ Ext w w':=by
 have h:=Z6w w u Q5e hu;rw [J3v,J3x] at h;exact h
theorem Z7b (w:World) (u:Value) (hu:IsTree w u Q7l) :
    Calls Tryz.prog 19 #[u] w fun e w'=>e = .returned (.tuple #[.agg #[.int .i64 7,.int .i64 16],.int .i64 0]) /\ Ext w w':=by
 have h:=X0i w u Q7l hu;rw [Z7y,J4y] at h;exact h
theorem J2l (w:World) (u:Value) (hu:IsTree w u Q0q) :
    Calls Tryz.prog 25 #[u] w fun e w'=>e = .returned (.tuple #[.string Z5y,.int .i64 0]) /\ Ext w w':=by
 have h:=Z3h w u Q0q hu;rw [J2e,Z4e] at h;exact h
theorem J3p (w:World) (u v:Value) (hu:Q6f w u [true,true,false,true,true]) (hv:Q6f w v [true,true,false,true,true]) :
    Calls Tryz.prog 40 #[u,v] w fun e w'=>e = .returned (.bool true) /\ Ext w w':=by
 have h:=Y3j w u v _ _ hu hv;rw [decide_eq_true rfl] at h;exact h
theorem Z6r (w:World) (u v:Value) (l:List (List Int)) (hu:Q1t w u l) (hv:Q1t w v l) :
    Calls Tryz.prog 41 #[u,v] w fun e w'=>e = .returned (.bool true) /\ Ext w w':=by
 have h:=Y5l w u v _ _ hu hv;rw [decide_eq_true rfl] at h;exact h
theorem J2w (w:World) (u v:Value) (l:List Int) (hu:Q0f w u l) (hv:Q0f w v l) :
    Calls Tryz.prog 42 #[u,v] w fun e w'=>e = .returned (.bool true) /\ Ext w w':=by
 have h:=X5w w u v _ _ hu hv;rw [decide_eq_true rfl] at h;exact h
theorem Q8m (w:World) (a b c d:Int):(binOp .neq 52 (.agg #[.int .i64 a,.int .i64 b]) (.agg #[.int .i64 c,.int .i64 d])).run Tryz.prog w = .ok (.bool (!(a == c && b == d))) w:=by
 have h:=X3g w ⟨a,b⟩ ⟨c,d⟩;simp only [encR] at h;rw [run_eql_struct] at h;rw [run_neq_struct];generalize (Op.equalIn 10000 52 (.agg #[.int .i64 a,.int .i64 b]) (.agg #[.int .i64 c,.int .i64 d])).run Tryz.prog w = r at h ⊢;cases r with
 | ok x w1 =>
   simp only [Result.andThen_ok] at h ⊢;injection h with h1 h2;injection h1 with h1;rw [h1,h2]; rfl
 | _=>simp [Result.andThen] at h
theorem Q7e (w:World) (a b c d:Int):(binOp .eql 52 (.agg #[.int .i64 a,.int .i64 b]) (.agg #[.int .i64 c,.int .i64 d])).run Tryz.prog w = .ok (.bool (a == c && b == d)) w:=X3g w ⟨a,b⟩ ⟨c,d⟩
theorem Z2t (w:World):(binOp .eql 89 (.agg #[.int .i64 151,.int .i64 256,.int .i64 83,.int .i64 128]) (.agg #[.int .i64 151,.int .i64 256,.int .i64 83,.int .i64 128])).run Tryz.prog w = .ok (.bool true) w:=by kernel_rfl
theorem J0p {w:World} {g:Nat} {T:TypeId} {l:List Bool} (h:Blk w g T (l.map Value.bool).toArray) (hl:l.length <= 1000):Q6f w (.slice (some ⟨g,0,none⟩) l.length l.length) l:=by
 refine ⟨fun j=>.bool (l.getD j false),⟨some ⟨g,0,none⟩,l.length,rfl,by omega,Nat.le_refl _,fun j hj=>⟨g,0,rfl,?_⟩⟩,fun j hj=>?_⟩
 . have hj':j < l.length:=by omega
   rw [h.cell]; simp [hj']
 . simp [hj]
theorem Z0k {w:World} {g:Nat} {T:TypeId} {vs:List Value} {ll:List (List Int)} (h:Blk w g T vs.toArray) (hlen:vs.length = ll.length) (hl:ll.length <= 1000) (hv:∀ j (h1:j < vs.length) (h2:j < ll.length),Q0f w vs[j] ll[j]):Q1t w (.slice (some ⟨g,0,none⟩) ll.length ll.length) ll:=by
 refine ⟨fun j=>vs.getD j undef,⟨some ⟨g,0,none⟩,ll.length,rfl,by omega,Nat.le_refl _,fun j hj=>⟨g,0,rfl,?_⟩⟩,fun j hj=>?_⟩
 . have hj':j < vs.length:=by omega
   rw [h.cell]; simp [hj']
 . have hj':j < vs.length:=by omega
   have:=hv j hj' hj
   simpa [hj'] using this
theorem Z4k {w:World} {g:Nat} {T:TypeId} {a b:Value} {x y:List Int} (h:Blk w g T #[a,b]) (ha:Q0f w a x) (hb:Q0f w b y):Q1t w (.slice (some ⟨g,0,none⟩) 2 2) [x,y] :=
 Z0k (vs:=[a,b]) (ll:=[x,y]) h rfl (by simp) fun j h1 h2=>by
  have:j = 0 ∨ j = 1:=by simp at h1; omega
  rcases this with rfl | rfl
  . exact ha
  . exact hb
theorem J5y {w:World} {g:Nat} {T:TypeId} {a b c:Value} {x y z:List Int} (h:Blk w g T #[a,b,c]) (ha:Q0f w a x) (hb:Q0f w b y) (hc:Q0f w c z):Q1t w (.slice (some ⟨g,0,none⟩) 3 3) [x,y,z] :=
 Z0k (vs:=[a,b,c]) (ll:=[x,y,z]) h rfl (by simp) fun j h1 h2=>by
  have:j = 0 ∨ j = 1 ∨ j = 2:=by simp at h1; omega
  rcases this with rfl | rfl | rfl
  . exact ha
  . exact hb
  . exact hc
theorem Z5q:Z5y.toList = [98,97,115,105,99,32,112,32,56,10,98,97,115,105,99,32,113,32,52,10,98,97,115,105,99,32,114,32,56,10,99,97,117,115,101,32,115,32,49,32,48,32,49,10,103,97,116,101,32,97,110,100,32,48,32,48,32,49,10,103,97,116,101,32,111,114,32,48,32,50,32,51,10]:=by simp [Z5y,go_sem]
theorem J5b:(Z5y.toList == [98,97,115,105,99,32,112,32,56,10,98,97,115,105,99,32,113,32,52,10,98,97,115,105,99,32,114,32,56,10,99,97,117,115,101,32,115,32,49,32,48,32,49,10,103,97,116,101,32,97,110,100,32,48,32,48,32,49,10,103,97,116,101,32,111,114,32,48,32,50,32,51,10]) = true:=by rw [Z5q]; decide
theorem Y9v (w:World):Q0f w (.slice none 0 0) []:=Go.Tw.Rows.nil _ _ _
end Go.Proofs
namespace Go.Proofs
open Go.RowKit Go.Tw Go.Flow
attribute [local go_sem ↓] Q8m Q7e Z2t X6b
theorem X9c (w:World) (hT:Tab w) :
    Calls Tryz.prog 7 #[] w fun e w'=>e = .returned (.bool true) /\ Ext w w':=by
 have HXA:=Lib.hid (Ext.refl w);have HTAB:=Lib.hid hT;clear hT;go_enter Tryz.func7,Tryz.ntmps7;go_wp2_with fail;refine (Q2m _).mono ?_;rintro e w1 ⟨u1,rfl,ht,hx⟩;have hxx:Ext w w1:=hx;replace HXA:=Lib.hid (HXA.out.trans hxx);replace HTAB:=Lib.hid (HTAB.out.ext hxx);clear hx hxx;have HU:=Lib.hid ht;clear ht;go_wp2_with fail;change Calls _ _ _ (w1.alloc (.cells #[.int .i64 0,.int .i64 1] 3)) _;obtain ⟨W,hWW,k0,HXW,eW⟩:=Q3j w1 3 #[.int .i64 0,.int .i64 1];rw [hWW];clear hWW;refine (Z9t _ _ _ (HU.out.ext HXW.out) (ints_at (l:=[0,1]) k0 (by simp))).mono ?_
 rintro e w2 ⟨rfl,hx⟩;have hxx:Ext w1 w2:=HXW.out.trans hx;replace HXA:=Lib.hid (HXA.out.trans hxx);replace HTAB:=Lib.hid (HTAB.out.ext hxx);clear hx hxx HXW eW k0;clear HU;go_wp2_with fail;refine (Q2m _).mono ?_;rintro e w3 ⟨u2,rfl,ht,hx⟩;have hxx:Ext w2 w3:=hx;replace HXA:=Lib.hid (HXA.out.trans hxx);replace HTAB:=Lib.hid (HTAB.out.ext hxx);clear hx hxx;have HU:=Lib.hid ht;clear ht;go_wp2_with fail;change Calls _ _ _ (w3.alloc (.cells #[.int .i64 0] 3)) _;obtain ⟨W,hWW,k0,HXW,eW⟩:=Q3j w3 3 #[.int .i64 0];rw [hWW];clear hWW;refine (J1h _ _ _ (HU.out.ext HXW.out) (ints_at (l:=[0]) k0 (by simp))).mono ?_
 rintro e w4 ⟨rfl,hx⟩;have hxx:Ext w3 w4:=HXW.out.trans hx;replace HXA:=Lib.hid (HXA.out.trans hxx);replace HTAB:=Lib.hid (HTAB.out.ext hxx);clear hx hxx HXW eW k0;clear HU;go_wp2_with fail;refine (Q2m _).mono ?_;rintro e w5 ⟨u3,rfl,ht,hx⟩;have hxx:Ext w4 w5:=hx;replace HXA:=Lib.hid (HXA.out.trans hxx);replace HTAB:=Lib.hid (HTAB.out.ext hxx);clear hx hxx;have HU:=Lib.hid ht;clear ht;go_wp2_with fail;change Calls _ _ _ (w5.alloc (.cells #[.int .i64 3] 3)) _;obtain ⟨W,hWW,k0,HXW,eW⟩:=Q3j w5 3 #[.int .i64 3];rw [hWW];clear hWW;refine (J1b _ _ _ (HU.out.ext HXW.out) (ints_at (l:=[3]) k0 (by simp))).mono ?_
 rintro e w6 ⟨xs,rfl,hr,hx⟩;have hxx:Ext w5 w6:=HXW.out.trans hx;replace HXA:=Lib.hid (HXA.out.trans hxx);replace HTAB:=Lib.hid (HTAB.out.ext hxx);have FS:=Lib.hid (hr);clear hx hxx HXW eW k0;clear HU;clear hr;go_wp2_with fail;refine (Q2m _).mono ?_;rintro e w7 ⟨u4,rfl,ht,hx⟩;have hxx:Ext w6 w7:=hx;replace HXA:=Lib.hid (HXA.out.trans hxx);replace HTAB:=Lib.hid (HTAB.out.ext hxx);replace FS:=Lib.hid (FS.out.ext hxx);clear hx hxx;have HU:=Lib.hid ht;clear ht;go_wp2_with fail;refine (J4g _ _ HU.out HTAB.out).mono ?_;rintro e w8 ⟨xc,rfl,hr,hx⟩;have hxx:Ext w7 w8:=hx;replace HXA:=Lib.hid (HXA.out.trans hxx);replace HTAB:=Lib.hid (HTAB.out.ext hxx);replace FS:=Lib.hid (FS.out.ext hxx);have FC:=Lib.hid (hr);clear hx hxx;clear HU;clear hr;go_wp2_with fail;refine (Q2m _).mono ?_;rintro e w9 ⟨u5,rfl,ht,hx⟩;have hxx:Ext w8 w9:=hx;replace HXA:=Lib.hid (HXA.out.trans hxx);replace HTAB:=Lib.hid (HTAB.out.ext hxx);replace FS:=Lib.hid (FS.out.ext hxx);replace FC:=Lib.hid (FC.out.ext hxx);clear hx hxx;have HU:=Lib.hid ht;clear ht;go_wp2_with fail;refine (J2r _ _ HU.out HTAB.out).mono ?_;rintro e w10 ⟨xp,rfl,hr,hx⟩;have hxx:Ext w9 w10:=hx;replace HXA:=Lib.hid (HXA.out.trans hxx);replace HTAB:=Lib.hid (HTAB.out.ext hxx);replace FS:=Lib.hid (FS.out.ext hxx);replace FC:=Lib.hid (FC.out.ext hxx);have FP:=Lib.hid (hr);clear hx hxx;clear HU;clear hr;go_wp2_with fail;refine (Q2m _).mono ?_;rintro e w11 ⟨u6,rfl,ht,hx⟩;have hxx:Ext w10 w11:=hx;replace HXA:=Lib.hid (HXA.out.trans hxx);replace HTAB:=Lib.hid (HTAB.out.ext hxx);replace FS:=Lib.hid (FS.out.ext hxx);replace FC:=Lib.hid (FC.out.ext hxx);replace FP:=Lib.hid (FP.out.ext hxx);clear hx hxx;have HU:=Lib.hid ht;clear ht;go_wp2_with fail;refine (J0s _ _ HU.out).mono ?_;rintro e w12 ⟨xl,rfl,hr,hx⟩;have hxx:Ext w11 w12:=hx;replace HXA:=Lib.hid (HXA.out.trans hxx);replace HTAB:=Lib.hid (HTAB.out.ext hxx);replace FS:=Lib.hid (FS.out.ext hxx);replace FC:=Lib.hid (FC.out.ext hxx);replace FP:=Lib.hid (FP.out.ext hxx);have FL:=Lib.hid (hr);clear hx hxx;clear HU;clear hr;go_wp2_with fail;refine (Q2m _).mono ?_;rintro e w13 ⟨u7,rfl,ht,hx⟩;have hxx:Ext w12 w13:=hx;replace HXA:=Lib.hid (HXA.out.trans hxx);replace HTAB:=Lib.hid (HTAB.out.ext hxx);replace FS:=Lib.hid (FS.out.ext hxx);replace FC:=Lib.hid (FC.out.ext hxx);replace FP:=Lib.hid (FP.out.ext hxx);replace FL:=Lib.hid (FL.out.ext hxx);clear hx hxx;have HU:=Lib.hid ht;clear ht;go_wp2_with fail;refine (Z8n _ _ HU.out).mono ?_;rintro e w14 ⟨rfl,hx⟩;have hxx:Ext w13 w14:=hx;replace HXA:=Lib.hid (HXA.out.trans hxx);replace HTAB:=Lib.hid (HTAB.out.ext hxx);replace FS:=Lib.hid (FS.out.ext hxx);replace FC:=Lib.hid (FC.out.ext hxx);replace FP:=Lib.hid (FP.out.ext hxx);replace FL:=Lib.hid (FL.out.ext hxx);clear hx hxx;clear HU;go_wp2_with fail;change Calls _ _ _ (w14.alloc (.cells #[.int .i64 151,.int .i64 256] 52)) _;obtain ⟨W,hWW,k0,HXW,eW⟩:=Q3j w14 52 #[.int .i64 151,.int .i64 256];rw [hWW];clear hWW;refine (Q2m _).mono ?_;rintro e w15 ⟨u8,rfl,ht,hx⟩;have hxx:Ext w14 w15:=HXW.out.trans hx;replace HXA:=Lib.hid (HXA.out.trans hxx);replace HTAB:=Lib.hid (HTAB.out.ext hxx);replace FS:=Lib.hid (FS.out.ext hxx);replace FC:=Lib.hid (FC.out.ext hxx);replace FP:=Lib.hid (FP.out.ext hxx);replace FL:=Lib.hid (FL.out.ext hxx);have B13:=Lib.hid (k0.ext hx);clear hx hxx HXW eW k0;have HU:=Lib.hid ht;clear ht;go_wp2_with fail;change Calls _ _ _ (w15.alloc (.cells #[.int .i64 2] 3)) _;obtain ⟨W,hWW,k0,HXW,eW⟩:=Q3j w15 3 #[.int .i64 2];rw [hWW];clear hWW;refine (J1m _ _ _ _ (HU.out.ext HXW.out) (ints_at (l:=[2]) k0 (by simp)) (Y9v _)).mono ?_
 rintro e w16 ⟨rfl,hx⟩;have hxx:Ext w15 w16:=HXW.out.trans hx;replace HXA:=Lib.hid (HXA.out.trans hxx);replace HTAB:=Lib.hid (HTAB.out.ext hxx);replace FS:=Lib.hid (FS.out.ext hxx);replace FC:=Lib.hid (FC.out.ext hxx);replace FP:=Lib.hid (FP.out.ext hxx);replace FL:=Lib.hid (FL.out.ext hxx);replace B13:=Lib.hid (B13.out.ext hxx);clear hx hxx HXW eW k0;clear HU;go_wp2_with fail;change Calls _ _ _ (w16.alloc (.cells #[.int .i64 1,.int .i64 1] 52)) _;obtain ⟨W,hWW,k0,HXW,eW⟩:=Q3j w16 52 #[.int .i64 1,.int .i64 1];rw [hWW];clear hWW;refine (Q2m _).mono ?_;rintro e w17 ⟨u9,rfl,ht,hx⟩;have hxx:Ext w16 w17:=HXW.out.trans hx;replace HXA:=Lib.hid (HXA.out.trans hxx);replace HTAB:=Lib.hid (HTAB.out.ext hxx);replace FS:=Lib.hid (FS.out.ext hxx);replace FC:=Lib.hid (FC.out.ext hxx);replace FP:=Lib.hid (FP.out.ext hxx);replace FL:=Lib.hid (FL.out.ext hxx);replace B13:=Lib.hid (B13.out.ext hxx);have B15:=Lib.hid (k0.ext hx);clear hx hxx HXW eW k0;have HU:=Lib.hid ht;clear ht;go_wp2_with fail;change Calls _ _ _ (w17.alloc (.cells #[.int .i64 2] 3)) _;obtain ⟨W,hWW,k0,HXW,eW⟩:=Q3j w17 3 #[.int .i64 2];rw [hWW];clear hWW;refine (J0g _ _ _ _ (HU.out.ext HXW.out) (Y9v _) (ints_at (l:=[2]) k0 (by simp))).mono ?_
 rintro e w18 ⟨rfl,hx⟩;have hxx:Ext w17 w18:=HXW.out.trans hx;replace HXA:=Lib.hid (HXA.out.trans hxx);replace HTAB:=Lib.hid (HTAB.out.ext hxx);replace FS:=Lib.hid (FS.out.ext hxx);replace FC:=Lib.hid (FC.out.ext hxx);replace FP:=Lib.hid (FP.out.ext hxx);replace FL:=Lib.hid (FL.out.ext hxx);replace B13:=Lib.hid (B13.out.ext hxx);replace B15:=Lib.hid (B15.out.ext hxx);clear hx hxx HXW eW k0;clear HU;go_wp2_with fail;change Calls _ _ _ (w18.alloc (.cells #[.int .i64 23,.int .i64 128] 52)) _;obtain ⟨W,hWW,k0,HXW,eW⟩:=Q3j w18 52 #[.int .i64 23,.int .i64 128];rw [hWW];clear hWW;refine (Q2m _).mono ?_;rintro e w19 ⟨u10,rfl,ht,hx⟩;have hxx:Ext w18 w19:=HXW.out.trans hx;replace HXA:=Lib.hid (HXA.out.trans hxx);replace HTAB:=Lib.hid (HTAB.out.ext hxx);replace FS:=Lib.hid (FS.out.ext hxx);replace FC:=Lib.hid (FC.out.ext hxx);replace FP:=Lib.hid (FP.out.ext hxx);replace FL:=Lib.hid (FL.out.ext hxx);replace B13:=Lib.hid (B13.out.ext hxx);replace B15:=Lib.hid (B15.out.ext hxx);have B17:=Lib.hid (k0.ext hx);clear hx hxx HXW eW k0;have HU:=Lib.hid ht;clear ht;go_wp2_with fail;refine (J6x _ _ HU.out).mono ?_;rintro e w20 ⟨rfl,hx⟩;have hxx:Ext w19 w20:=hx;replace HXA:=Lib.hid (HXA.out.trans hxx);replace HTAB:=Lib.hid (HTAB.out.ext hxx);replace FS:=Lib.hid (FS.out.ext hxx);replace FC:=Lib.hid (FC.out.ext hxx);replace FP:=Lib.hid (FP.out.ext hxx);replace FL:=Lib.hid (FL.out.ext hxx);replace B13:=Lib.hid (B13.out.ext hxx);replace B15:=Lib.hid (B15.out.ext hxx);replace B17:=Lib.hid (B17.out.ext hxx);clear hx hxx;clear HU;go_wp2_with fail;change Calls _ _ _ (w20.alloc (.cells #[.int .i64 105,.int .i64 128] 52)) _;obtain ⟨W,hWW,k0,HXW,eW⟩:=Q3j w20 52 #[.int .i64 105,.int .i64 128];rw [hWW];clear hWW;refine (Q2m _).mono ?_;rintro e w21 ⟨u11,rfl,ht,hx⟩;have hxx:Ext w20 w21:=HXW.out.trans hx;replace HXA:=Lib.hid (HXA.out.trans hxx);replace HTAB:=Lib.hid (HTAB.out.ext hxx);replace FS:=Lib.hid (FS.out.ext hxx);replace FC:=Lib.hid (FC.out.ext hxx);replace FP:=Lib.hid (FP.out.ext hxx);replace FL:=Lib.hid (FL.out.ext hxx);replace B13:=Lib.hid (B13.out.ext hxx);replace B15:=Lib.hid (B15.out.ext hxx);replace B17:=Lib.hid (B17.out.ext hxx);have B19:=Lib.hid (k0.ext hx);clear hx hxx HXW eW k0;have HU:=Lib.hid ht;clear ht;go_wp2_with fail;refine (J3r _ _ HU.out).mono ?_;rintro e w22 ⟨rfl,hx⟩;have hxx:Ext w21 w22:=hx;replace HXA:=Lib.hid (HXA.out.trans hxx);replace HTAB:=Lib.hid (HTAB.out.ext hxx);replace FS:=Lib.hid (FS.out.ext hxx);replace FC:=Lib.hid (FC.out.ext hxx);replace FP:=Lib.hid (FP.out.ext hxx);replace FL:=Lib.hid (FL.out.ext hxx);replace B13:=Lib.hid (B13.out.ext hxx);replace B15:=Lib.hid (B15.out.ext hxx);replace B17:=Lib.hid (B17.out.ext hxx);replace B19:=Lib.hid (B19.out.ext hxx);clear hx hxx;clear HU;go_wp2_with fail;change Calls _ _ _ (w22.alloc (.cells #[.int .i64 128,.int .i64 151] 52)) _;obtain ⟨W,hWW,k0,HXW,eW⟩:=Q3j w22 52 #[.int .i64 128,.int .i64 151];rw [hWW];clear hWW;refine (Q2m _).mono ?_;rintro e w23 ⟨u12,rfl,ht,hx⟩;have hxx:Ext w22 w23:=HXW.out.trans hx;replace HXA:=Lib.hid (HXA.out.trans hxx);replace HTAB:=Lib.hid (HTAB.out.ext hxx);replace FS:=Lib.hid (FS.out.ext hxx);replace FC:=Lib.hid (FC.out.ext hxx);replace FP:=Lib.hid (FP.out.ext hxx);replace FL:=Lib.hid (FL.out.ext hxx);replace B13:=Lib.hid (B13.out.ext hxx);replace B15:=Lib.hid (B15.out.ext hxx);replace B17:=Lib.hid (B17.out.ext hxx);replace B19:=Lib.hid (B19.out.ext hxx);have B21:=Lib.hid (k0.ext hx);clear hx hxx HXW eW k0;have HU:=Lib.hid ht;clear ht;go_wp2_with fail;refine (J6d _ _ HU.out).mono ?_;rintro e w24 ⟨rfl,hx⟩;have hxx:Ext w23 w24:=hx;replace HXA:=Lib.hid (HXA.out.trans hxx);replace HTAB:=Lib.hid (HTAB.out.ext hxx);replace FS:=Lib.hid (FS.out.ext hxx);replace FC:=Lib.hid (FC.out.ext hxx);replace FP:=Lib.hid (FP.out.ext hxx);replace FL:=Lib.hid (FL.out.ext hxx);replace B13:=Lib.hid (B13.out.ext hxx);replace B15:=Lib.hid (B15.out.ext hxx);replace B17:=Lib.hid (B17.out.ext hxx);replace B19:=Lib.hid (B19.out.ext hxx);replace B21:=Lib.hid (B21.out.ext hxx);clear hx hxx
 clear HU;go_wp2_with fail;refine (Q2m _).mono ?_;rintro e w25 ⟨u13,rfl,ht,hx⟩;have hxx:Ext w24 w25:=hx;replace HXA:=Lib.hid (HXA.out.trans hxx);replace HTAB:=Lib.hid (HTAB.out.ext hxx);replace FS:=Lib.hid (FS.out.ext hxx);replace FC:=Lib.hid (FC.out.ext hxx);replace FP:=Lib.hid (FP.out.ext hxx);replace FL:=Lib.hid (FL.out.ext hxx);replace B13:=Lib.hid (B13.out.ext hxx);replace B15:=Lib.hid (B15.out.ext hxx);replace B17:=Lib.hid (B17.out.ext hxx);replace B19:=Lib.hid (B19.out.ext hxx);replace B21:=Lib.hid (B21.out.ext hxx);clear hx hxx;have HU:=Lib.hid ht;clear ht;go_wp2_with fail;refine (J3t _ _ HU.out HTAB.out).mono ?_;rintro e w26 ⟨rfl,hx⟩;have hxx:Ext w25 w26:=hx;replace HXA:=Lib.hid (HXA.out.trans hxx);replace HTAB:=Lib.hid (HTAB.out.ext hxx);replace FS:=Lib.hid (FS.out.ext hxx);replace FC:=Lib.hid (FC.out.ext hxx);replace FP:=Lib.hid (FP.out.ext hxx);replace FL:=Lib.hid (FL.out.ext hxx);replace B13:=Lib.hid (B13.out.ext hxx);replace B15:=Lib.hid (B15.out.ext hxx);replace B17:=Lib.hid (B17.out.ext hxx);replace B19:=Lib.hid (B19.out.ext hxx);replace B21:=Lib.hid (B21.out.ext hxx);clear hx hxx;clear HU;go_wp2_with fail;change Calls _ _ _ ((w26.alloc (.cells #[.int .i64 11,.int .i64 16] 52)).alloc (.cells #[.bool true,.bool true,.bool false,.bool true,.bool true] 4)) _;obtain ⟨W,hWW,k0,k1,HXW,eW⟩:=Q7n w26 52 #[.int .i64 11,.int .i64 16] 4 #[.bool true,.bool true,.bool false,.bool true,.bool true];rw [hWW];clear hWW;refine (J3p _ _ _ (FS.out.ext HXW.out) (J0p (l:=[true,true,false,true,true]) k1 (by simp))).mono ?_
 rintro e w27 ⟨rfl,hx⟩;have hxx:Ext w26 w27:=HXW.out.trans hx;replace HXA:=Lib.hid (HXA.out.trans hxx);replace HTAB:=Lib.hid (HTAB.out.ext hxx);clear FS;replace FC:=Lib.hid (FC.out.ext hxx);replace FP:=Lib.hid (FP.out.ext hxx);replace FL:=Lib.hid (FL.out.ext hxx);replace B13:=Lib.hid (B13.out.ext hxx);replace B15:=Lib.hid (B15.out.ext hxx);replace B17:=Lib.hid (B17.out.ext hxx);replace B19:=Lib.hid (B19.out.ext hxx);replace B21:=Lib.hid (B21.out.ext hxx);have B25:=Lib.hid (k0.ext hx);clear hx hxx HXW eW k0 k1;go_wp2_with fail;change Calls _ _ _ ((((w27.alloc (.cells #[.int .i64 2] 3)).alloc (.cells #[.int .i64 3] 3)).alloc (.cells #[.int .i64 0,.int .i64 1] 3)).alloc (.cells #[.slice (some ⟨w27.heap.size,0,none⟩) 1 1,.slice (some ⟨w27.heap.size + 1,0,none⟩) 1 1,.slice (some ⟨w27.heap.size + 1 + 1,0,none⟩) 2 2] 40)) _;have k0:=Blk.made w27 3 #[.int .i64 2];have x0:=Ext.box w27 (.cells #[.int .i64 2] 3);have es0:(w27.alloc (.cells #[.int .i64 2] 3)).heap.size = w27.heap.size + 1:=by simp
 obtain ⟨X0,hX0⟩:∃ X,w27.alloc (.cells #[.int .i64 2] 3) = X:=⟨_,rfl⟩;rw [hX0] at k0 x0 es0 ⊢;clear hX0;have k1:=Blk.made X0 3 #[.int .i64 3];have x1:=Ext.box X0 (.cells #[.int .i64 3] 3);have es1:(X0.alloc (.cells #[.int .i64 3] 3)).heap.size = X0.heap.size + 1:=by simp
 obtain ⟨X1,hX1⟩:∃ X,X0.alloc (.cells #[.int .i64 3] 3) = X:=⟨_,rfl⟩;rw [hX1] at k1 x1 es1 ⊢;clear hX1;have k2:=Blk.made X1 3 #[.int .i64 0,.int .i64 1];have x2:=Ext.box X1 (.cells #[.int .i64 0,.int .i64 1] 3);have es2:(X1.alloc (.cells #[.int .i64 0,.int .i64 1] 3)).heap.size = X1.heap.size + 1:=by simp
 obtain ⟨X2,hX2⟩:∃ X,X1.alloc (.cells #[.int .i64 0,.int .i64 1] 3) = X:=⟨_,rfl⟩;rw [hX2] at k2 x2 es2 ⊢;clear hX2;have k3:=Blk.made X2 40 #[.slice (some ⟨w27.heap.size,0,none⟩) 1 1,.slice (some ⟨w27.heap.size + 1,0,none⟩) 1 1,.slice (some ⟨w27.heap.size + 1 + 1,0,none⟩) 2 2];have x3:=Ext.box X2 (.cells #[.slice (some ⟨w27.heap.size,0,none⟩) 1 1,.slice (some ⟨w27.heap.size + 1,0,none⟩) 1 1,.slice (some ⟨w27.heap.size + 1 + 1,0,none⟩) 2 2] 40);have es3:(X2.alloc (.cells #[.slice (some ⟨w27.heap.size,0,none⟩) 1 1,.slice (some ⟨w27.heap.size + 1,0,none⟩) 1 1,.slice (some ⟨w27.heap.size + 1 + 1,0,none⟩) 2 2] 40)).heap.size = X2.heap.size + 1:=by simp
 obtain ⟨X3,hX3⟩:∃ X,X2.alloc (.cells #[.slice (some ⟨w27.heap.size,0,none⟩) 1 1,.slice (some ⟨w27.heap.size + 1,0,none⟩) 1 1,.slice (some ⟨w27.heap.size + 1 + 1,0,none⟩) 2 2] 40) = X:=⟨_,rfl⟩;rw [hX3] at k3 x3 es3 ⊢;clear hX3;replace k0:=((k0.ext x1).ext x2).ext x3;replace k1:=(k1.ext x2).ext x3;replace k2:=k2.ext x3;have e0:X0.heap.size = w27.heap.size + 1:=by omega
 have e1:X1.heap.size = w27.heap.size + 1 + 1:=by omega
 have e2:X2.heap.size = w27.heap.size + 1 + 1 + 1:=by omega
 have e3:X3.heap.size = w27.heap.size + 1 + 1 + 1 + 1:=by omega
 rw [e0] at k1;rw [e1] at k2;rw [e2] at k3;have HXW:Hid (Ext w27 X3):=Lib.hid (Ext.trans (Ext.trans (Ext.trans (x0) x1) x2) x3);have eW:X3.heap.size = w27.heap.size + 1 + 1 + 1 + 1:=e3;clear x0 es0 e0 x1 es1 e1 x2 es2 e2 x3 es3 e3;obtain ⟨W,hWW⟩:∃ W,X3 = W:=⟨_,rfl⟩;rw [hWW] at HXW eW ⊢ k0 k1 k2 k3;clear hWW;refine (Z6r _ _ _ _ (FC.out.ext HXW.out) (J5y k3 (ints_at (l:=[2]) k0 (by simp)) (ints_at (l:=[3]) k1 (by simp)) (ints_at (l:=[0,1]) k2 (by simp)))).mono ?_
 rintro e w28 ⟨rfl,hx⟩;have hxx:Ext w27 w28:=HXW.out.trans hx;replace HXA:=Lib.hid (HXA.out.trans hxx);replace HTAB:=Lib.hid (HTAB.out.ext hxx);clear FC;replace FP:=Lib.hid (FP.out.ext hxx);replace FL:=Lib.hid (FL.out.ext hxx);replace B13:=Lib.hid (B13.out.ext hxx);replace B15:=Lib.hid (B15.out.ext hxx);replace B17:=Lib.hid (B17.out.ext hxx);replace B19:=Lib.hid (B19.out.ext hxx);replace B21:=Lib.hid (B21.out.ext hxx);replace B25:=Lib.hid (B25.out.ext hxx);clear hx hxx HXW eW k0 k1 k2 k3;go_wp2_with fail;change Calls _ _ _ (((w28.alloc (.cells #[.int .i64 0,.int .i64 2,.int .i64 3] 3)).alloc (.cells #[.int .i64 1,.int .i64 2,.int .i64 3] 3)).alloc (.cells #[.slice (some ⟨w28.heap.size,0,none⟩) 3 3,.slice (some ⟨w28.heap.size + 1,0,none⟩) 3 3] 40)) _;obtain ⟨W,hWW,k0,k1,k2,HXW,eW⟩:=X6a w28 3 #[.int .i64 0,.int .i64 2,.int .i64 3] 3 #[.int .i64 1,.int .i64 2,.int .i64 3] 40 #[.slice (some ⟨w28.heap.size,0,none⟩) 3 3,.slice (some ⟨w28.heap.size + 1,0,none⟩) 3 3];rw [hWW];clear hWW;refine (Z6r _ _ _ _ (FP.out.ext HXW.out) (Z4k k2 (ints_at (l:=[0,2,3]) k0 (by simp)) (ints_at (l:=[1,2,3]) k1 (by simp)))).mono ?_
 rintro e w29 ⟨rfl,hx⟩;have hxx:Ext w28 w29:=HXW.out.trans hx;replace HXA:=Lib.hid (HXA.out.trans hxx);replace HTAB:=Lib.hid (HTAB.out.ext hxx);clear FP;replace FL:=Lib.hid (FL.out.ext hxx);replace B13:=Lib.hid (B13.out.ext hxx);replace B15:=Lib.hid (B15.out.ext hxx);replace B17:=Lib.hid (B17.out.ext hxx);replace B19:=Lib.hid (B19.out.ext hxx);replace B21:=Lib.hid (B21.out.ext hxx);replace B25:=Lib.hid (B25.out.ext hxx);clear hx hxx HXW eW k0 k1 k2;go_wp2_with fail;change Calls _ _ _ (w29.alloc (.cells #[.int .i64 2,.int .i64 3] 3)) _;obtain ⟨W,hWW,k0,HXW,eW⟩:=Q3j w29 3 #[.int .i64 2,.int .i64 3];rw [hWW];clear hWW;refine (J2w _ _ _ _ (FL.out.ext HXW.out) (ints_at (l:=[2,3]) k0 (by simp))).mono ?_
 rintro e w30 ⟨rfl,hx⟩;have hxx:Ext w29 w30:=HXW.out.trans hx;replace HXA:=Lib.hid (HXA.out.trans hxx);replace HTAB:=Lib.hid (HTAB.out.ext hxx);clear FL;replace B13:=Lib.hid (B13.out.ext hxx);replace B15:=Lib.hid (B15.out.ext hxx);replace B17:=Lib.hid (B17.out.ext hxx);replace B19:=Lib.hid (B19.out.ext hxx);replace B21:=Lib.hid (B21.out.ext hxx);replace B25:=Lib.hid (B25.out.ext hxx);clear hx hxx HXW eW k0;have b13_0:=B13.out.cell 0;have b13_1:=B13.out.cell 1;have b15_0:=B15.out.cell 0;have b15_1:=B15.out.cell 1;have b17_0:=B17.out.cell 0;have b17_1:=B17.out.cell 1;have b19_0:=B19.out.cell 0;have b19_1:=B19.out.cell 1;have b21_0:=B21.out.cell 0;have b21_1:=B21.out.cell 1;have b25_0:=B25.out.cell 0;have b25_1:=B25.out.cell 1;simp only [Go.Tw.gA,Go.Tw.gB,Go.Tw.gC] at b13_0 b13_1 b15_0 b15_1 b17_0 b17_1 b19_0 b19_1 b21_0 b21_1 b25_0 b25_1;go_wp2_with fail;refine (Q2m _).mono ?_;rintro e w31 ⟨u14,rfl,ht,hx⟩;have hxx:Ext w30 w31:=hx;replace HXA:=Lib.hid (HXA.out.trans hxx);replace HTAB:=Lib.hid (HTAB.out.ext hxx);replace B13:=Lib.hid (B13.out.ext hxx);replace B15:=Lib.hid (B15.out.ext hxx);replace B17:=Lib.hid (B17.out.ext hxx);replace B19:=Lib.hid (B19.out.ext hxx);replace B21:=Lib.hid (B21.out.ext hxx);replace B25:=Lib.hid (B25.out.ext hxx);clear hx hxx;have HU:=Lib.hid ht;clear ht;clear b13_0 b13_1 b15_0 b15_1 b17_0 b17_1 b19_0 b19_1 b21_0 b21_1 b25_0 b25_1;clear B13 B15 B17 B19 B21 B25;go_wp2_with fail;change Calls _ _ _ ((((((w31.alloc (.cells #[.int .i64 2] 3)).alloc (.cells #[.int .i64 0,.int .i64 1] 3)).alloc (.cells #[.slice (some ⟨w31.heap.size,0,none⟩) 1 1,.slice (some ⟨w31.heap.size + 1,0,none⟩) 2 2] 40)).alloc (.cells #[.int .i64 0,.int .i64 2,.int .i64 3] 3)).alloc (.cells #[.int .i64 1,.int .i64 2,.int .i64 3] 3)).alloc (.cells #[.slice (some ⟨w31.heap.size + 1 + 1 + 1,0,none⟩) 3 3,.slice (some ⟨w31.heap.size + 1 + 1 + 1 + 1,0,none⟩) 3 3] 40)) _;have k0:=Blk.made w31 3 #[.int .i64 2];have x0:=Ext.box w31 (.cells #[.int .i64 2] 3);have es0:(w31.alloc (.cells #[.int .i64 2] 3)).heap.size = w31.heap.size + 1:=by simp
 obtain ⟨X0,hX0⟩:∃ X,w31.alloc (.cells #[.int .i64 2] 3) = X:=⟨_,rfl⟩;rw [hX0] at k0 x0 es0 ⊢;clear hX0;have k1:=Blk.made X0 3 #[.int .i64 0,.int .i64 1];have x1:=Ext.box X0 (.cells #[.int .i64 0,.int .i64 1] 3);have es1:(X0.alloc (.cells #[.int .i64 0,.int .i64 1] 3)).heap.size = X0.heap.size + 1:=by simp
 obtain ⟨X1,hX1⟩:∃ X,X0.alloc (.cells #[.int .i64 0,.int .i64 1] 3) = X:=⟨_,rfl⟩;rw [hX1] at k1 x1 es1 ⊢;clear hX1;have k2:=Blk.made X1 40 #[.slice (some ⟨w31.heap.size,0,none⟩) 1 1,.slice (some ⟨w31.heap.size + 1,0,none⟩) 2 2];have x2:=Ext.box X1 (.cells #[.slice (some ⟨w31.heap.size,0,none⟩) 1 1,.slice (some ⟨w31.heap.size + 1,0,none⟩) 2 2] 40);have es2:(X1.alloc (.cells #[.slice (some ⟨w31.heap.size,0,none⟩) 1 1,.slice (some ⟨w31.heap.size + 1,0,none⟩) 2 2] 40)).heap.size = X1.heap.size + 1:=by simp
 obtain ⟨X2,hX2⟩:∃ X,X1.alloc (.cells #[.slice (some ⟨w31.heap.size,0,none⟩) 1 1,.slice (some ⟨w31.heap.size + 1,0,none⟩) 2 2] 40) = X:=⟨_,rfl⟩;rw [hX2] at k2 x2 es2 ⊢;clear hX2;have k3:=Blk.made X2 3 #[.int .i64 0,.int .i64 2,.int .i64 3];have x3:=Ext.box X2 (.cells #[.int .i64 0,.int .i64 2,.int .i64 3] 3);have es3:(X2.alloc (.cells #[.int .i64 0,.int .i64 2,.int .i64 3] 3)).heap.size = X2.heap.size + 1:=by simp
 obtain ⟨X3,hX3⟩:∃ X,X2.alloc (.cells #[.int .i64 0,.int .i64 2,.int .i64 3] 3) = X:=⟨_,rfl⟩;rw [hX3] at k3 x3 es3 ⊢;clear hX3;have k4:=Blk.made X3 3 #[.int .i64 1,.int .i64 2,.int .i64 3];have x4:=Ext.box X3 (.cells #[.int .i64 1,.int .i64 2,.int .i64 3] 3);have es4:(X3.alloc (.cells #[.int .i64 1,.int .i64 2,.int .i64 3] 3)).heap.size = X3.heap.size + 1:=by simp
 obtain ⟨X4,hX4⟩:∃ X,X3.alloc (.cells #[.int .i64 1,.int .i64 2,.int .i64 3] 3) = X:=⟨_,rfl⟩;rw [hX4] at k4 x4 es4 ⊢;clear hX4;have k5:=Blk.made X4 40 #[.slice (some ⟨w31.heap.size + 1 + 1 + 1,0,none⟩) 3 3,.slice (some ⟨w31.heap.size + 1 + 1 + 1 + 1,0,none⟩) 3 3];have x5:=Ext.box X4 (.cells #[.slice (some ⟨w31.heap.size + 1 + 1 + 1,0,none⟩) 3 3,.slice (some ⟨w31.heap.size + 1 + 1 + 1 + 1,0,none⟩) 3 3] 40);have es5:(X4.alloc (.cells #[.slice (some ⟨w31.heap.size + 1 + 1 + 1,0,none⟩) 3 3,.slice (some ⟨w31.heap.size + 1 + 1 + 1 + 1,0,none⟩) 3 3] 40)).heap.size = X4.heap.size + 1:=by simp
 obtain ⟨X5,hX5⟩:∃ X,X4.alloc (.cells #[.slice (some ⟨w31.heap.size + 1 + 1 + 1,0,none⟩) 3 3,.slice (some ⟨w31.heap.size + 1 + 1 + 1 + 1,0,none⟩) 3 3] 40) = X:=⟨_,rfl⟩;rw [hX5] at k5 x5 es5 ⊢;clear hX5;replace k0:=((((k0.ext x1).ext x2).ext x3).ext x4).ext x5;replace k1:=(((k1.ext x2).ext x3).ext x4).ext x5;replace k2:=((k2.ext x3).ext x4).ext x5;replace k3:=(k3.ext x4).ext x5;replace k4:=k4.ext x5;have e0:X0.heap.size = w31.heap.size + 1:=by omega
 have e1:X1.heap.size = w31.heap.size + 1 + 1:=by omega
 have e2:X2.heap.size = w31.heap.size + 1 + 1 + 1:=by omega
 have e3:X3.heap.size = w31.heap.size + 1 + 1 + 1 + 1:=by omega
 have e4:X4.heap.size = w31.heap.size + 1 + 1 + 1 + 1 + 1:=by omega
 have e5:X5.heap.size = w31.heap.size + 1 + 1 + 1 + 1 + 1 + 1:=by omega
 rw [e0] at k1;rw [e1] at k2;rw [e2] at k3;rw [e3] at k4;rw [e4] at k5;have HXW:Hid (Ext w31 X5):=Lib.hid (Ext.trans (Ext.trans (Ext.trans (Ext.trans (Ext.trans (x0) x1) x2) x3) x4) x5);have eW:X5.heap.size = w31.heap.size + 1 + 1 + 1 + 1 + 1 + 1:=e5;clear x0 es0 e0 x1 es1 e1 x2 es2 e2 x3 es3 e3 x4 es4 e4 x5 es5 e5;obtain ⟨W,hWW⟩:∃ W,X5 = W:=⟨_,rfl⟩;rw [hWW] at HXW eW ⊢ k0 k1 k2 k3 k4 k5;clear hWW;refine (J7h _ _ _ _ (HU.out.ext HXW.out) (Z4k k2 (ints_at (l:=[2]) k0 (by simp)) (ints_at (l:=[0,1]) k1 (by simp))) (Z4k k5 (ints_at (l:=[0,2,3]) k3 (by simp)) (ints_at (l:=[1,2,3]) k4 (by simp)))).mono ?_
 rintro e w32 ⟨rfl,hx⟩;have hxx:Ext w31 w32:=HXW.out.trans hx;replace HXA:=Lib.hid (HXA.out.trans hxx);replace HTAB:=Lib.hid (HTAB.out.ext hxx);clear hx hxx HXW eW k0 k1 k2 k3 k4 k5;clear HU;go_wp2_with fail;refine (Q2m _).mono ?_;rintro e w33 ⟨u15,rfl,ht,hx⟩;have hxx:Ext w32 w33:=hx;replace HXA:=Lib.hid (HXA.out.trans hxx);replace HTAB:=Lib.hid (HTAB.out.ext hxx);clear hx hxx;have HU:=Lib.hid ht;clear ht;go_wp2_with fail;change Calls _ _ _ (w33.alloc (.cells #[.int .i64 16,.int .i64 4,.int .i64 8,.int .i64 1] 3)) _;obtain ⟨W,hWW,k0,HXW,eW⟩:=Q3j w33 3 #[.int .i64 16,.int .i64 4,.int .i64 8,.int .i64 1];rw [hWW];clear hWW;refine (Z2m _ _ _ (HU.out.ext HXW.out) (ints_at (l:=[16,4,8,1]) k0 (by simp))).mono ?_
 rintro e w34 ⟨rfl,hx⟩;have hxx:Ext w33 w34:=HXW.out.trans hx;replace HXA:=Lib.hid (HXA.out.trans hxx);replace HTAB:=Lib.hid (HTAB.out.ext hxx);clear hx hxx HXW eW k0;clear HU;go_wp2_with fail;change Calls _ _ _ (w34.alloc (.cells #[.int .i64 151,.int .i64 256,.int .i64 83,.int .i64 128] 89)) _;obtain ⟨W,hWW,k0,HXW,eW⟩:=Q3j w34 89 #[.int .i64 151,.int .i64 256,.int .i64 83,.int .i64 128];rw [hWW];clear hWW;refine (Q2m _).mono ?_;rintro e w35 ⟨u16,rfl,ht,hx⟩;have hxx:Ext w34 w35:=HXW.out.trans hx;replace HXA:=Lib.hid (HXA.out.trans hxx);replace HTAB:=Lib.hid (HTAB.out.ext hxx);have B28:=Lib.hid (k0.ext hx);clear hx hxx HXW eW k0;have HU:=Lib.hid ht;clear ht;go_wp2_with fail;refine (J4w _ _ HU.out).mono ?_;rintro e w36 ⟨rfl,hx⟩;have hxx:Ext w35 w36:=hx;replace HXA:=Lib.hid (HXA.out.trans hxx);replace HTAB:=Lib.hid (HTAB.out.ext hxx);replace B28:=Lib.hid (B28.out.ext hxx);clear hx hxx;clear HU;go_wp2_with fail;change Calls _ _ _ (w36.alloc (.cells #[.int .i64 23,.int .i64 128] 52)) _;obtain ⟨W,hWW,k0,HXW,eW⟩:=Q3j w36 52 #[.int .i64 23,.int .i64 128];rw [hWW];clear hWW;refine (Q2m _).mono ?_;rintro e w37 ⟨u17,rfl,ht,hx⟩;have hxx:Ext w36 w37:=HXW.out.trans hx;replace HXA:=Lib.hid (HXA.out.trans hxx);replace HTAB:=Lib.hid (HTAB.out.ext hxx);replace B28:=Lib.hid (B28.out.ext hxx);have B31:=Lib.hid (k0.ext hx);clear hx hxx HXW eW k0;have HU:=Lib.hid ht;clear ht;go_wp2_with fail;refine (Z7l _ _ HU.out).mono ?_;rintro e w38 ⟨xw,rfl,hr,hx⟩;have hxx:Ext w37 w38:=hx;replace HXA:=Lib.hid (HXA.out.trans hxx);replace HTAB:=Lib.hid (HTAB.out.ext hxx);replace B28:=Lib.hid (B28.out.ext hxx);replace B31:=Lib.hid (B31.out.ext hxx);clear hx hxx;clear HU;obtain ⟨a,b,c,rfl,h3⟩:=hr;obtain ⟨Xa,Xp,rfl,_,_,_⟩:=h3.basics.opened;obtain ⟨Xb,Xq,rfl,_,_,_⟩:=h3.causes.opened;obtain ⟨Xc,Xr,rfl,_,_,_⟩:=h3.gates.opened;have HW:=Lib.hid h3;clear h3;go_wp2_with fail;change Calls _ _ _ (w38.alloc (.cells #[.slice Xa Q5e.basics.length Xp,.slice Xb Q5e.causes.length Xq,.slice Xc Q5e.gates.length Xr] 33)) _;obtain ⟨W,hWW,k0,HXW,eW⟩:=Q3j w38 33 #[.slice Xa Q5e.basics.length Xp,.slice Xb Q5e.causes.length Xq,.slice Xc Q5e.gates.length Xr];rw [hWW];clear hWW;refine (Z5u _ _ ⟨_,_,_,rfl,(HW.out.ext HXW.out)⟩).mono ?_;rintro e w39 ⟨rfl,hx⟩;have hxx:Ext w38 w39:=HXW.out.trans hx;replace HXA:=Lib.hid (HXA.out.trans hxx);replace HTAB:=Lib.hid (HTAB.out.ext hxx);replace B28:=Lib.hid (B28.out.ext hxx);replace B31:=Lib.hid (B31.out.ext hxx);replace HW:=Lib.hid (HW.out.ext hxx);have BW:=Lib.hid (k0.ext hx);clear hx hxx HXW eW k0;have c0:=BW.out.cell 0;have c1:=BW.out.cell 1;have c2:=BW.out.cell 2;simp only [Go.Tw.gA,Go.Tw.gB,Go.Tw.gC] at c0 c1 c2;have x0:=Ext.box w39 (.cells #[.int .i64 9,.int .i64 16] 52);replace c0:=x0.cell c0;replace c1:=x0.cell c1;replace c2:=x0.cell c2;go_wp2_with fail;change Calls _ _ _ (w39.alloc (.cells #[.int .i64 9,.int .i64 16] 52)) _;obtain ⟨W,hWW,k0,HXW,eW⟩:=Q3j w39 52 #[.int .i64 9,.int .i64 16];rw [hWW];clear hWW;refine (J5u _ _ ⟨_,_,_,rfl,(HW.out.ext HXW.out)⟩).mono ?_;rintro e w40 ⟨xd,rfl,hr,hx⟩;have hxx:Ext w39 w40:=HXW.out.trans hx;replace HXA:=Lib.hid (HXA.out.trans hxx);replace HTAB:=Lib.hid (HTAB.out.ext hxx);replace B28:=Lib.hid (B28.out.ext hxx);replace B31:=Lib.hid (B31.out.ext hxx);replace HW:=Lib.hid (HW.out.ext hxx);replace BW:=Lib.hid (BW.out.ext hxx);have B35:=Lib.hid (k0.ext hx);clear hx hxx HXW eW k0;clear c0 c1 c2 x0;obtain ⟨a,b,c,rfl,h3⟩:=hr;obtain ⟨Ya,Yp,rfl,_,_,_⟩:=h3.basics.opened;obtain ⟨Yb,Yq,rfl,_,_,_⟩:=h3.causes.opened;obtain ⟨Yc,Yr,rfl,_,_,_⟩:=h3.gates.opened;have HD:=Lib.hid h3;clear h3;go_wp2_with fail;change Calls _ _ _ (w40.alloc (.cells #[.slice Ya Q7l.basics.length Yp,.slice Yb Q7l.causes.length Yq,.slice Yc Q7l.gates.length Yr] 33)) _;obtain ⟨W,hWW,k0,HXW,eW⟩:=Q3j w40 33 #[.slice Ya Q7l.basics.length Yp,.slice Yb Q7l.causes.length Yq,.slice Yc Q7l.gates.length Yr];rw [hWW];clear hWW;refine (Z7b _ _ ⟨_,_,_,rfl,(HD.out.ext HXW.out)⟩).mono ?_;rintro e w41 ⟨rfl,hx⟩;have hxx:Ext w40 w41:=HXW.out.trans hx;replace HXA:=Lib.hid (HXA.out.trans hxx)
 replace HTAB:=Lib.hid (HTAB.out.ext hxx);replace B28:=Lib.hid (B28.out.ext hxx);replace B31:=Lib.hid (B31.out.ext hxx);replace HW:=Lib.hid (HW.out.ext hxx);replace BW:=Lib.hid (BW.out.ext hxx);replace B35:=Lib.hid (B35.out.ext hxx);replace HD:=Lib.hid (HD.out.ext hxx);clear hx hxx HXW eW k0;go_wp2_with fail;change Calls _ _ _ (w41.alloc (.cells #[.int .i64 7,.int .i64 16] 52)) _;obtain ⟨W,hWW,k0,HXW,eW⟩:=Q3j w41 52 #[.int .i64 7,.int .i64 16];rw [hWW];clear hWW;refine (Q2m _).mono ?_;rintro e w42 ⟨u18,rfl,ht,hx⟩;have hxx:Ext w41 w42:=HXW.out.trans hx;replace HXA:=Lib.hid (HXA.out.trans hxx);replace HTAB:=Lib.hid (HTAB.out.ext hxx);replace B28:=Lib.hid (B28.out.ext hxx);replace B31:=Lib.hid (B31.out.ext hxx);replace HW:=Lib.hid (HW.out.ext hxx);replace BW:=Lib.hid (BW.out.ext hxx);replace B35:=Lib.hid (B35.out.ext hxx);replace HD:=Lib.hid (HD.out.ext hxx);have B39:=Lib.hid (k0.ext hx);clear hx hxx HXW eW k0;have HU:=Lib.hid ht;clear ht;go_wp2_with fail;refine (J2l _ _ HU.out).mono ?_;rintro e w43 ⟨rfl,hx⟩;have hxx:Ext w42 w43:=hx;replace HXA:=Lib.hid (HXA.out.trans hxx);replace HTAB:=Lib.hid (HTAB.out.ext hxx);replace B28:=Lib.hid (B28.out.ext hxx);replace B31:=Lib.hid (B31.out.ext hxx);replace HW:=Lib.hid (HW.out.ext hxx);replace BW:=Lib.hid (BW.out.ext hxx);replace B35:=Lib.hid (B35.out.ext hxx);replace HD:=Lib.hid (HD.out.ext hxx);replace B39:=Lib.hid (B39.out.ext hxx);clear hx hxx;clear HU;have b28_0:=B28.out.cell 0;have b28_1:=B28.out.cell 1;have b28_2:=B28.out.cell 2;have b28_3:=B28.out.cell 3;have b31_0:=B31.out.cell 0;have b31_1:=B31.out.cell 1;have b35_0:=B35.out.cell 0;have b35_1:=B35.out.cell 1;have b39_0:=B39.out.cell 0;have b39_1:=B39.out.cell 1;simp only [Go.Tw.gA,Go.Tw.gB,Go.Tw.gC] at b28_0 b28_1 b28_2 b28_3 b31_0 b31_1 b35_0 b35_1 b39_0 b39_1;go_wp2;go_ret;exact ⟨congrArg Ending.returned (congrArg Value.bool J5b),HXA.out⟩
end Go.Proofs
namespace Go.Proofs
open Go.Tw
theorem Y5y (n:Nat):(List.finRange n).map (fun x=>x.1) = List.range n:=by
 apply List.ext_getElem
 . simp
 . intro i h1 h2
   simp
theorem Z0y {N:Nat} (t:Tree) (c:List Int) (wi:Nat):∀ l:List (Fin N),sumW t c wi l = ((l.map (fun x=>x.1)).map (Y2o t c wi)).sum
 | []=>rfl
 | x :: l=>by rw [sumW,Z0y t c wi l]; simp
theorem X6i (t:Tree) (c:List Int):∀ n,t.X1w c n = ((List.range n).map fun s=>if t.fails (evN s) then partOf c s else 0).sum
 | 0=>rfl
 | n + 1=>by rw [Tree.X1w,X6i t c n,List.range_succ,List.map_append,List.sum_append]; simp
theorem Y8s (t:Tree) (c:List Int) (wi:Nat):Q1i t c wi = ((List.range (2 ^ t.size)).map (Y2o t c wi)).sum:=by
 unfold Q1i;rw [Z0y,Y5y]
theorem X6l (t:Tree) (c:List Int):Q1i t c 0 = t.weight c:=by
 rw [Y8s];unfold Tree.weight;rw [X6i]
 congr 1
 apply List.map_congr_left
 intro s _;unfold Y2o;simp
end Go.Proofs
