/- The values of the program's functions at the document's tree, and their contracts there. -/
import Derived.Test.YtgopmebjbkdfgaaGreatDoorFm33
import Derived.Test.YtgopmebjbkdfgaaGreatDoorFm23
set_option maxRecDepth 1000000
set_option maxHeartbeats 64000000
set_option linter.unusedVariables false
set_option linter.unusedSimpArgs false
set_option linter.constructorNameAsVariable false
namespace Go.Proofs
open Go.RowKit Go.Tw Go.Flow
def gA:Gate:=⟨Q8x,0,[0,1]⟩
def Q4y:Tree:=⟨[⟨ch1 112,8⟩,⟨ch1 113,4⟩,⟨ch1 114,8⟩],[],[⟨Q8x,0,[0,1]⟩,⟨sOr,0,[2,3]⟩]⟩
def Q6y:Tree:=⟨[⟨ch1 112,8⟩,⟨ch1 113,12⟩,⟨ch1 114,8⟩],[],[⟨sOr,0,[0,1]⟩,⟨Q8x,0,[2,3]⟩]⟩
def Z0n:ByteArray:=⟨#[98,97,115,105,99,32,112,32,56,10,98,97,115,105,99,32,113,32,52,10,98,97,115,105,99,32,114,32,56,10,99,97,117,115,101,32,115,32,49,32,48,32,49,10,103,97,116,101,32,97,110,100,32,48,32,48,32,49,10,103,97,116,101,32,111,114,32,48,32,50,32,51,10]⟩
theorem Y9g:Q0p.err = 0:=by kernel_rfl
theorem Z5t:X1g Q0p [0,1] = true:=by kernel_rfl
theorem Z5g:X1g Q0p [0] = false:=by kernel_rfl
theorem Z7t:Q0l Q0p [0,1] = 0:=by kernel_rfl
theorem Z8l:Q0l Q0p [0] = 0:=by kernel_rfl
theorem Z9e:Q0l Q0p [3] = 0:=by kernel_rfl
theorem Z6d:Q0l Q0p [2] = 0:=by kernel_rfl
theorem Z5m:X1w Q0p [3] = [true,true,false,true,true]:=by kernel_rfl
theorem Z9p:X4x Q0p false = [[2],[3],[0,1]]:=by kernel_rfl
theorem Z6q:X4x Q0p true = [[0,2,3],[1,2,3]]:=by kernel_rfl
theorem Z5n:singleR Q0p = [2,3]:=by kernel_rfl
theorem Z3j:Q9w Q0p = ⟨151,256⟩:=by kernel_rfl
theorem Z3f:X7a Q0p [2] [] = ⟨1,1⟩:=by kernel_rfl
theorem Z2k:Q7d Q0p [2] [] = 0:=by kernel_rfl
theorem Z4b:X7a Q0p [] [2] = ⟨23,128⟩:=by kernel_rfl
theorem Y9r:Q7d Q0p [] [2] = 0:=by kernel_rfl
theorem J0c:Q6h Q0p 2 = ⟨105,128⟩:=by kernel_rfl
theorem Z8t:decide (0 <= Z7y Q0p 2) = true:=by kernel_rfl
theorem Z7u:X8g Q0p 2 = ⟨128,151⟩:=by kernel_rfl
theorem Z3q:X0j Q0p 2 = 0:=by kernel_rfl
theorem Z8z:Q8y Q0p 2 = 3:=by kernel_rfl
theorem Z8b:X8b Q0p = ⟨11,16⟩:=by kernel_rfl
theorem J0o:Y2s Q0p [[2],[0,1]] [[0,2,3],[1,2,3]] = 22:=by kernel_rfl
theorem Z9g:Q3f Q0p [16,4,8,1] = 0:=by kernel_rfl
theorem J0k:Z3b Q0p [16,4,8,1] = ⟨151,256⟩:=by kernel_rfl
theorem Z8s:X7j Q0p [16,4,8,1] = ⟨83,128⟩:=by kernel_rfl
theorem Z7h:X3p Q0p = 0:=by kernel_rfl
theorem Z7p:X8l Q0p = 2:=by kernel_rfl
theorem Z7d:nextR Q0p = ⟨23,128⟩:=by kernel_rfl
theorem J0e:Q3x Q0p 0 = 0:=by kernel_rfl
theorem J0f:Q5i Q0p 0 = Q4y:=by kernel_rfl
theorem Z9o:Q4y.err = 0:=by kernel_rfl
theorem Z2q:Q9w Q4y = ⟨9,16⟩:=by kernel_rfl
theorem Z7s:X3w Q4y = 0:=by kernel_rfl
theorem Z7f:Y8c Q4y = Q6y:=by kernel_rfl
theorem Z8n:Q6y.err = 0:=by kernel_rfl
theorem Z1l:Q9w Q6y = ⟨7,16⟩:=by kernel_rfl
theorem Z6s:X6f Q0p = Z0n:=by kernel_rfl
theorem Z3x (w:World) (u v:Value) (hu:IsTree w u Q0p) (hv:Q0f w v [0,1]) :
    Calls Tryz.prog 31 #[u,v] w fun e w'=>e = .returned (.tuple #[.bool true,.int .i64 0]) /\ Ext w w':=by
 have h:=X7q w u v Q0p [0,1] hu hv;rw [Z5t,Z7t] at h;exact h
theorem Z3t (w:World) (u v:Value) (hu:IsTree w u Q0p) (hv:Q0f w v [0]) :
    Calls Tryz.prog 31 #[u,v] w fun e w'=>e = .returned (.tuple #[.bool false,.int .i64 0]) /\ Ext w w':=by
 have h:=X7q w u v Q0p [0] hu hv;rw [Z5g,Z8l] at h;exact h
theorem Z5e (w:World) (u v:Value) (hu:IsTree w u Q0p) (hv:Q0f w v [3]) :
    Calls Tryz.prog 33 #[u,v] w fun e w'=>∃ x,e = .returned (.tuple #[x,.int .i64 0]) /\ Q5y w' x [true,true,false,true,true] /\ Ext w w':=by
 have h:=Y4i w u v Q0p [3] hu hv;rw [Z5m,Z9e] at h;exact h
theorem Z9x (w:World) (u:Value) (hu:IsTree w u Q0p) (hT:Tab w) :
    Calls Tryz.prog 20 #[u] w fun e w'=>∃ x,e = .returned (.tuple #[x,.int .i64 0]) /\ Q2b w' x [[2],[3],[0,1]] /\ Ext w w':=by
 have h:=Z2m w u Q0p hu hT;rw [Z9p,Y9g] at h;exact h
theorem Z7m (w:World) (u:Value) (hu:IsTree w u Q0p) (hT:Tab w) :
    Calls Tryz.prog 34 #[u] w fun e w'=>∃ x,e = .returned (.tuple #[x,.int .i64 0]) /\ Q2b w' x [[0,2,3],[1,2,3]] /\ Ext w w':=by
 have h:=Y7e w u Q0p hu hT;rw [Z6q,Y9g] at h;exact h
theorem Z4p (w:World) (u:Value) (hu:IsTree w u Q0p) :
    Calls Tryz.prog 35 #[u] w fun e w'=>∃ x,e = .returned (.tuple #[x,.int .i64 0]) /\ Q0f w' x [2,3] /\ Ext w w':=by
 have h:=Y4n w u Q0p hu;rw [Z5n,Y9g] at h;exact h
theorem Z5a (w:World) (u:Value) (hu:IsTree w u Q0p) :
    Calls Tryz.prog 19 #[u] w fun e w'=>e = .returned (.tuple #[.agg #[.int .i64 151,.int .i64 256],.int .i64 0]) /\ Ext w w':=by
 have h:=X1z w u Q0p hu;rw [Z3j,Y9g] at h;exact h
theorem Z4f (w:World) (u v z:Value) (hu:IsTree w u Q0p) (hv:Q0f w v [2]) (hz:Q0f w z []) :
    Calls Tryz.prog 24 #[u,v,z] w fun e w'=>e = .returned (.tuple #[.agg #[.int .i64 1,.int .i64 1],.int .i64 0]) /\ Ext w w':=by
 have h:=X7z w u v z Q0p [2] [] hu hv hz;rw [Z3f,Z2k] at h;exact h
theorem Z5y (w:World) (u v z:Value) (hu:IsTree w u Q0p) (hv:Q0f w v []) (hz:Q0f w z [2]) :
    Calls Tryz.prog 24 #[u,v,z] w fun e w'=>e = .returned (.tuple #[.agg #[.int .i64 23,.int .i64 128],.int .i64 0]) /\ Ext w w':=by
 have h:=X7z w u v z Q0p [] [2] hu hv hz;rw [Z4b,Y9r] at h;exact h
theorem J0m (w:World) (u:Value) (hu:IsTree w u Q0p) :
    Calls Tryz.prog 36 #[u,.int .i64 2] w fun e w'=>e = .returned (.tuple #[.agg #[.int .i64 105,.int .i64 128],.int .i64 0]) /\ Ext w w':=by
 have h:=X7d w u Q0p 2 hu (fun _=>of_decide_eq_true Z8t);rw [J0c,Z6d] at h;exact h
theorem Z6v (w:World) (u:Value) (hu:IsTree w u Q0p) :
    Calls Tryz.prog 37 #[u,.int .i64 2] w fun e w'=>e = .returned (.tuple #[.agg #[.int .i64 128,.int .i64 151],.int .i64 0]) /\ Ext w w':=by
 have h:=Y8v w u Q0p 2 hu;rw [Z7u,Z3q] at h;exact h
theorem Z9s (w:World) (u:Value) (hu:IsTree w u Q0p) :
    Calls Tryz.prog 38 #[u,.int .i64 2] w fun e w'=>e = .returned (.tuple #[.int .i64 3,.int .i64 0]) /\ Ext w w':=by
 have h:=Y0b w u Q0p 2 hu;rw [Z8z,Z6d] at h;exact h
theorem Z6t (w:World) (u:Value) (hu:IsTree w u Q0p) (hT:Tab w) :
    Calls Tryz.prog 39 #[u] w fun e w'=>e = .returned (.tuple #[.agg #[.int .i64 11,.int .i64 16],.int .i64 0]) /\ Ext w w':=by
 have h:=Y7k w u Q0p hu hT;rw [Z8b,Y9g] at h;exact h
theorem J0q (w:World) (u v z:Value) (hu:IsTree w u Q0p) (hv:Q2b w v [[2],[0,1]]) (hz:Q2b w z [[0,2,3],[1,2,3]]) :
    Calls Tryz.prog 43 #[u,v,z] w fun e w'=>e = .returned (.int .i64 22) /\ Ext w w':=by
 have h:=X7f w u v z Q0p _ _ hu hv hz;rw [J0o] at h;exact h
theorem Y9f (w:World) (u v:Value) (hu:IsTree w u Q0p) (hv:Q0f w v [16,4,8,1]) :
    Calls Tryz.prog 44 #[u,v] w fun e w'=>e = .returned (.tuple #[.agg #[.int .i64 151,.int .i64 256,.int .i64 83,.int .i64 128],.int .i64 0]) /\ Ext w w':=by
 have h:=X9x w u v Q0p _ hu hv;rw [J0k,Z8s,Z9g] at h;exact h
theorem Z8p (w:World) (u:Value) (hu:IsTree w u Q0p) :
    Calls Tryz.prog 45 #[u] w fun e w'=>e = .returned (.tuple #[.int .i64 2,.agg #[.int .i64 23,.int .i64 128],.int .i64 0]) /\ Ext w w':=by
 have h:=Z0l w u Q0p hu;rw [Z7p,Z7d,Z7h] at h;exact h
theorem Z2u (w:World) (u:Value) (hu:IsTree w u Q0p) :
    Calls Tryz.prog 23 #[u,.int .i64 0] w fun e w'=>∃ x,e = .returned (.tuple #[x,.int .i64 0]) /\ IsTree w' x Q4y /\ Ext w w':=by
 have h:=Y1r w u Q0p 0 hu (by omega) (by omega)
 rw [J0e,J0f] at h;exact h
theorem Y9t (w:World) (u:Value) (hu:IsTree w u Q4y) :
    Calls Tryz.prog 19 #[u] w fun e w'=>e = .returned (.tuple #[.agg #[.int .i64 9,.int .i64 16],.int .i64 0]) /\ Ext w w':=by
 have h:=X1z w u Q4y hu;rw [Z2q,Z9o] at h;exact h
theorem Z9k (w:World) (u:Value) (hu:IsTree w u Q4y) :
    Calls Tryz.prog 46 #[u] w fun e w'=>∃ x,e = .returned (.tuple #[x,.int .i64 0]) /\ IsTree w' x Q6y /\ Ext w w':=by
 have h:=Y9v w u Q4y hu;rw [Z7s,Z7f] at h;exact h
theorem Z1n (w:World) (u:Value) (hu:IsTree w u Q6y) :
    Calls Tryz.prog 19 #[u] w fun e w'=>e = .returned (.tuple #[.agg #[.int .i64 7,.int .i64 16],.int .i64 0]) /\ Ext w w':=by
 have h:=X1z w u Q6y hu;rw [Z1l,Z8n] at h;exact h
theorem Z6x (w:World) (u:Value) (hu:IsTree w u Q0p) :
    Calls Tryz.prog 25 #[u] w fun e w'=>e = .returned (.tuple #[.string Z0n,.int .i64 0]) /\ Ext w w':=by
 have h:=Y8j w u Q0p hu;rw [Z6s,Y9g] at h;exact h
theorem Z7b (w:World) (u v:Value) (hu:Q5y w u [true,true,false,true,true]) (hv:Q5y w v [true,true,false,true,true]) :
    Calls Tryz.prog 40 #[u,v] w fun e w'=>e = .returned (.bool true) /\ Ext w w':=by
 have h:=Y0i w u v _ _ hu hv;rw [decide_eq_true rfl] at h;exact h
theorem Z0s (w:World) (u v:Value) (l:List (List Int)) (hu:Q2b w u l) (hv:Q2b w v l) :
    Calls Tryz.prog 41 #[u,v] w fun e w'=>e = .returned (.bool true) /\ Ext w w':=by
 have h:=Y0z w u v _ _ hu hv;rw [decide_eq_true rfl] at h;exact h
theorem Z6y (w:World) (u v:Value) (l:List Int) (hu:Q0f w u l) (hv:Q0f w v l) :
    Calls Tryz.prog 42 #[u,v] w fun e w'=>e = .returned (.bool true) /\ Ext w w':=by
 have h:=Q7w w u v _ _ hu hv;rw [decide_eq_true rfl] at h;exact h
theorem Y4f (w:World) (a b c d:Int):(binOp .neq 52 (.agg #[.int .i64 a,.int .i64 b]) (.agg #[.int .i64 c,.int .i64 d])).run Tryz.prog w = .ok (.bool (!(a == c && b == d))) w:=by
 have h:=X2b w ⟨a,b⟩ ⟨c,d⟩;simp only [encR] at h;rw [run_eql_struct] at h;rw [run_neq_struct];generalize (Op.equalIn 10000 52 (.agg #[.int .i64 a,.int .i64 b]) (.agg #[.int .i64 c,.int .i64 d])).run Tryz.prog w = r at h ⊢;cases r with
 | ok x w1 =>
   simp only [Result.andThen_ok] at h ⊢;injection h with h1 h2;injection h1 with h1;rw [h1,h2]; rfl
 | _=>simp [Result.andThen] at h
theorem Y1f (w:World) (a b c d:Int):(binOp .eql 52 (.agg #[.int .i64 a,.int .i64 b]) (.agg #[.int .i64 c,.int .i64 d])).run Tryz.prog w = .ok (.bool (a == c && b == d)) w:=X2b w ⟨a,b⟩ ⟨c,d⟩
theorem Y8i (w:World):(binOp .eql 89 (.agg #[.int .i64 151,.int .i64 256,.int .i64 83,.int .i64 128]) (.agg #[.int .i64 151,.int .i64 256,.int .i64 83,.int .i64 128])).run Tryz.prog w = .ok (.bool true) w:=by kernel_rfl
theorem Z5r {w:World} {g:Nat} {T:TypeId} {l:List Bool} (h:Blk w g T (l.map Value.bool).toArray) (hl:l.length <= 1000):Q5y w (.slice (some ⟨g,0,none⟩) l.length l.length) l:=by
 refine ⟨fun j=>.bool (l.getD j false),⟨some ⟨g,0,none⟩,l.length,rfl,by omega,Nat.le_refl _,fun j hj=>⟨g,0,rfl,?_⟩⟩,fun j hj=>?_⟩
 . have hj':j < l.length:=by omega
   rw [h.cell]; simp [hj']
 . simp [hj]
theorem Y5q {w:World} {g:Nat} {T:TypeId} {vs:List Value} {ll:List (List Int)} (h:Blk w g T vs.toArray) (hlen:vs.length = ll.length) (hl:ll.length <= 1000) (hv:∀ j (h1:j < vs.length) (h2:j < ll.length),Q0f w vs[j] ll[j]):Q2b w (.slice (some ⟨g,0,none⟩) ll.length ll.length) ll:=by
 refine ⟨fun j=>vs.getD j undef,⟨some ⟨g,0,none⟩,ll.length,rfl,by omega,Nat.le_refl _,fun j hj=>⟨g,0,rfl,?_⟩⟩,fun j hj=>?_⟩
 . have hj':j < vs.length:=by omega
   rw [h.cell]; simp [hj']
 . have hj':j < vs.length:=by omega
   have:=hv j hj' hj
   simpa [hj'] using this
theorem Y9q {w:World} {g:Nat} {T:TypeId} {a b:Value} {x y:List Int} (h:Blk w g T #[a,b]) (ha:Q0f w a x) (hb:Q0f w b y):Q2b w (.slice (some ⟨g,0,none⟩) 2 2) [x,y] :=
 Y5q (vs:=[a,b]) (ll:=[x,y]) h rfl (by simp) fun j h1 h2=>by
  have:j = 0 ∨ j = 1:=by simp at h1; omega
  rcases this with rfl | rfl
  . exact ha
  . exact hb
theorem Z9m {w:World} {g:Nat} {T:TypeId} {a b c:Value} {x y z:List Int} (h:Blk w g T #[a,b,c]) (ha:Q0f w a x) (hb:Q0f w b y) (hc:Q0f w c z):Q2b w (.slice (some ⟨g,0,none⟩) 3 3) [x,y,z] :=
 Y5q (vs:=[a,b,c]) (ll:=[x,y,z]) h rfl (by simp) fun j h1 h2=>by
  have:j = 0 ∨ j = 1 ∨ j = 2:=by simp at h1; omega
  rcases this with rfl | rfl | rfl
  . exact ha
  . exact hb
  . exact hc
theorem Z2p:Z0n.toList = [98,97,115,105,99,32,112,32,56,10,98,97,115,105,99,32,113,32,52,10,98,97,115,105,99,32,114,32,56,10,99,97,117,115,101,32,115,32,49,32,48,32,49,10,103,97,116,101,32,97,110,100,32,48,32,48,32,49,10,103,97,116,101,32,111,114,32,48,32,50,32,51,10]:=by simp [Z0n,go_sem]
theorem Z8u:(Z0n.toList == [98,97,115,105,99,32,112,32,56,10,98,97,115,105,99,32,113,32,52,10,98,97,115,105,99,32,114,32,56,10,99,97,117,115,101,32,115,32,49,32,48,32,49,10,103,97,116,101,32,97,110,100,32,48,32,48,32,49,10,103,97,116,101,32,111,114,32,48,32,50,32,51,10]) = true:=by rw [Z2p]; decide
theorem Y5y (w:World):Q0f w (.slice none 0 0) []:=Go.Tw.Rows.nil _ _ _
end Go.Proofs
