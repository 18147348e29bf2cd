/- The values of the program's functions at the document's tree, and their contracts there. -/
import Derived.Test.YtmaejccjimkbiaaGreatDoorFx43
import Derived.Test.YtmaejccjimkbiaaGreatDoorFx31
set_option linter.unusedVariables false
set_option linter.unusedSimpArgs false
set_option linter.constructorNameAsVariable false
namespace Go.Proofs
open Go.RowKit Go.Tw Go.Flow
def Q3e:Tree:=⟨[⟨ch1 112,8⟩,⟨ch1 113,4⟩,⟨ch1 114,8⟩],[],[⟨Q8z,0,[0,1]⟩,⟨sOr,0,[2,3]⟩]⟩
def Q3p:Tree:=⟨[⟨ch1 112,8⟩,⟨ch1 113,12⟩,⟨ch1 114,8⟩],[],[⟨sOr,0,[0,1]⟩,⟨Q8z,0,[2,3]⟩]⟩
def Y9t:ByteArray:=⟨#[98,97,115,105,99,32,112,32,56,10,98,97,115,105,99,32,113,32,52,10,98,97,115,105,99,32,114,32,56,10,99,97,117,115,101,32,115,32,49,32,48,32,49,10,103,97,116,101,32,97,110,100,32,48,32,48,32,49,10,103,97,116,101,32,111,114,32,48,32,50,32,51,10]⟩
theorem Y5e:Q0p.err = 0:=by kernel_rfl
theorem Z1z:Q9m Q0p [0,1] = true:=by kernel_rfl
theorem Z0h:Q9m Q0p [0] = false:=by kernel_rfl
theorem Z3o:Q0i Q0p [0,1] = 0:=by kernel_rfl
theorem Z4p:Q0i Q0p [0] = 0:=by kernel_rfl
theorem Z4l:Q0i Q0p [3] = 0:=by kernel_rfl
theorem Z2x:Q0i Q0p [2] = 0:=by kernel_rfl
theorem Z0t:Q9p Q0p [3] = [true,true,false,true,true]:=by kernel_rfl
theorem Z5j:X0c Q0p false = [[2],[3],[0,1]]:=by kernel_rfl
theorem Z4b:X0c Q0p true = [[0,2,3],[1,2,3]]:=by kernel_rfl
theorem Z1a:singleR Q0p = [2,3]:=by kernel_rfl
theorem Z2k:Q7u Q0p = ⟨151,256⟩:=by kernel_rfl
theorem Z0j:X1v Q0p [2] [] = ⟨1,1⟩:=by kernel_rfl
theorem Y8j:Q5x Q0p [2] [] = 0:=by kernel_rfl
theorem Z0r:X1v Q0p [] [2] = ⟨23,128⟩:=by kernel_rfl
theorem Y8s:Q5x Q0p [] [2] = 0:=by kernel_rfl
theorem Z6c:Q4e Q0p 2 = ⟨105,128⟩:=by kernel_rfl
theorem Z4w:decide (0 ≤ Z2q Q0p 2) = true:=by kernel_rfl
theorem Z3q:X2t Q0p 2 = ⟨128,151⟩:=by kernel_rfl
theorem Z1p:Q7c Q0p 2 = 0:=by kernel_rfl
theorem Z4z:Q6b Q0p 2 = 3:=by kernel_rfl
theorem Z3s:X2s Q0p = ⟨11,16⟩:=by kernel_rfl
theorem Z6j:X3r Q0p [[2],[0,1]] [[0,2,3],[1,2,3]] = 22:=by kernel_rfl
theorem Z5m:Q2f Q0p [16,4,8,1] = 0:=by kernel_rfl
theorem Z6e:Y4j Q0p [16,4,8,1] = ⟨151,256⟩:=by kernel_rfl
theorem Z4n:X1r Q0p [16,4,8,1] = ⟨83,128⟩:=by kernel_rfl
theorem Z3b:Q9a Q0p = 0:=by kernel_rfl
theorem Z4f:X3g Q0p = 2:=by kernel_rfl
theorem Z3i:nextR Q0p = ⟨23,128⟩:=by kernel_rfl
theorem Z6d:Q1r Q0p 0 = 0:=by kernel_rfl
theorem Z5z:Q2t Q0p 0 = Q3e:=by kernel_rfl
theorem Z4y:Q3e.err = 0:=by kernel_rfl
theorem Y8r:Q7u Q3e = ⟨9,16⟩:=by kernel_rfl
theorem Z3z:Q3s Q3e = 0:=by kernel_rfl
theorem Z2z:Q7y Q3e = Q3p:=by kernel_rfl
theorem Z5n:Q3p.err = 0:=by kernel_rfl
theorem Y7t:Q7u Q3p = ⟨7,16⟩:=by kernel_rfl
theorem Z4d:X2r Q0p = Y9t:=by kernel_rfl
theorem Z0d (w:World) (u v:Value) (hu:IsTree w u Q0p) (hv:Q0f w v [0,1]) :
    Calls Tryz.prog 22 #[u,v] w fun e w'=>e = .returned (.tuple #[.bool true,.int .i64 0]) ∧ Ext w w':=by
 have h:=X6u w u v Q0p [0,1] hu hv;rw [Z1z,Z3o] at h;exact h
theorem Z1w (w:World) (u v:Value) (hu:IsTree w u Q0p) (hv:Q0f w v [0]) :
    Calls Tryz.prog 22 #[u,v] w fun e w'=>e = .returned (.tuple #[.bool false,.int .i64 0]) ∧ Ext w w':=by
 have h:=X6u w u v Q0p [0] hu hv;rw [Z0h,Z4p] at h;exact h
theorem Z0w (w:World) (u v:Value) (hu:IsTree w u Q0p) (hv:Q0f w v [3]) :
    Calls Tryz.prog 61 #[u,v] w fun e w'=>∃ x,e = .returned (.tuple #[x,.int .i64 0]) ∧ Q4s w' x [true,true,false,true,true] ∧ Ext w w':=by
 have h:=Y1s w u v Q0p [3] hu hv;rw [Z0t,Z4l] at h;exact h
theorem Z4u (w:World) (u:Value) (hu:IsTree w u Q0p) (hT:Tab w) :
    Calls Tryz.prog 13 #[u] w fun e w'=>∃ x,e = .returned (.tuple #[x,.int .i64 0]) ∧ Q1w w' x [[2],[3],[0,1]] ∧ Ext w w':=by
 have h:=Y7z w u Q0p hu hT;rw [Z5j,Y5e] at h;exact h
theorem Z3d (w:World) (u:Value) (hu:IsTree w u Q0p) (hT:Tab w) :
    Calls Tryz.prog 15 #[u] w fun e w'=>∃ x,e = .returned (.tuple #[x,.int .i64 0]) ∧ Q1w w' x [[0,2,3],[1,2,3]] ∧ Ext w w':=by
 have h:=Y6t w u Q0p hu hT;rw [Z4b,Y5e] at h;exact h
theorem Z2b (w:World) (u:Value) (hu:IsTree w u Q0p) :
    Calls Tryz.prog 16 #[u] w fun e w'=>∃ x,e = .returned (.tuple #[x,.int .i64 0]) ∧ Q0f w' x [2,3] ∧ Ext w w':=by
 have h:=Y2r w u Q0p hu;rw [Z1a,Y5e] at h;exact h
theorem Z1u (w:World) (u:Value) (hu:IsTree w u Q0p) :
    Calls Tryz.prog 29 #[u] w fun e w'=>e = .returned (.tuple #[.agg #[.int .i64 151,.int .i64 256],.int .i64 0]) ∧ Ext w w':=by
 have h:=X0l w u Q0p hu;rw [Z2k,Y5e] at h;exact h
theorem Z1i (w:World) (u v z:Value) (hu:IsTree w u Q0p) (hv:Q0f w v [2]) (hz:Q0f w z []) :
    Calls Tryz.prog 45 #[u,v,z] w fun e w'=>e = .returned (.tuple #[.agg #[.int .i64 1,.int .i64 1],.int .i64 0]) ∧ Ext w w':=by
 have h:=X7a w u v z Q0p [2] [] hu hv hz;rw [Z0j,Y8j] at h;exact h
theorem Z2o (w:World) (u v z:Value) (hu:IsTree w u Q0p) (hv:Q0f w v []) (hz:Q0f w z [2]) :
    Calls Tryz.prog 45 #[u,v,z] w fun e w'=>e = .returned (.tuple #[.agg #[.int .i64 23,.int .i64 128],.int .i64 0]) ∧ Ext w w':=by
 have h:=X7a w u v z Q0p [] [2] hu hv hz;rw [Z0r,Y8s] at h;exact h
theorem Z6f (w:World) (u:Value) (hu:IsTree w u Q0p) :
    Calls Tryz.prog 46 #[u,.int .i64 2] w fun e w'=>e = .returned (.tuple #[.agg #[.int .i64 105,.int .i64 128],.int .i64 0]) ∧ Ext w w':=by
 have h:=X4r w u Q0p 2 hu (fun _=>of_decide_eq_true Z4w);rw [Z6c,Z2x] at h;exact h
theorem Z3y (w:World) (u:Value) (hu:IsTree w u Q0p) :
    Calls Tryz.prog 62 #[u,.int .i64 2] w fun e w'=>e = .returned (.tuple #[.agg #[.int .i64 128,.int .i64 151],.int .i64 0]) ∧ Ext w w':=by
 have h:=Y6d w u Q0p 2 hu;rw [Z3q,Z1p] at h;exact h
theorem Z5g (w:World) (u:Value) (hu:IsTree w u Q0p) :
    Calls Tryz.prog 63 #[u,.int .i64 2] w fun e w'=>e = .returned (.tuple #[.int .i64 3,.int .i64 0]) ∧ Ext w w':=by
 have h:=X7n w u Q0p 2 hu;rw [Z4z,Z2x] at h;exact h
theorem Z4g (w:World) (u:Value) (hu:IsTree w u Q0p) (hT:Tab w) :
    Calls Tryz.prog 47 #[u] w fun e w'=>e = .returned (.tuple #[.agg #[.int .i64 11,.int .i64 16],.int .i64 0]) ∧ Ext w w':=by
 have h:=Y6p w u Q0p hu hT;rw [Z3s,Y5e] at h;exact h
theorem Z6k (w:World) (u v z:Value) (hu:IsTree w u Q0p) (hv:Q1w w v [[2],[0,1]]) (hz:Q1w w z [[0,2,3],[1,2,3]]) :
    Calls Tryz.prog 25 #[u,v,z] w fun e w'=>e = .returned (.int .i64 22) ∧ Ext w w':=by
 have h:=X6g w u v z Q0p _ _ hu hv hz;rw [Z6j] at h;exact h
theorem Y5v (w:World) (u v:Value) (hu:IsTree w u Q0p) (hv:Q0f w v [16,4,8,1]) :
    Calls Tryz.prog 48 #[u,v] w fun e w'=>e = .returned (.tuple #[.agg #[.int .i64 151,.int .i64 256,.int .i64 83,.int .i64 128],.int .i64 0]) ∧ Ext w w':=by
 have h:=X7k w u v Q0p _ hu hv;rw [Z6e,Z4n,Z5m] at h;exact h
theorem Z5e (w:World) (u:Value) (hu:IsTree w u Q0p) :
    Calls Tryz.prog 51 #[u] w fun e w'=>e = .returned (.tuple #[.int .i64 2,.agg #[.int .i64 23,.int .i64 128],.int .i64 0]) ∧ Ext w w':=by
 have h:=Y7p w u Q0p hu;rw [Z4f,Z3i,Z3b] at h;exact h
theorem Y7e (w:World) (u:Value) (hu:IsTree w u Q0p) :
    Calls Tryz.prog 35 #[u,.int .i64 0] w fun e w'=>∃ x,e = .returned (.tuple #[x,.int .i64 0]) ∧ IsTree w' x Q3e ∧ Ext w w':=by
 have h:=Y0u w u Q0p 0 hu (by omega) (by omega)
 rw [Z6d,Z5z] at h;exact h
theorem Y7c (w:World) (u:Value) (hu:IsTree w u Q3e) :
    Calls Tryz.prog 29 #[u] w fun e w'=>e = .returned (.tuple #[.agg #[.int .i64 9,.int .i64 16],.int .i64 0]) ∧ Ext w w':=by
 have h:=X0l w u Q3e hu;rw [Y8r,Z4y] at h;exact h
theorem Z4q (w:World) (u:Value) (hu:IsTree w u Q3e) :
    Calls Tryz.prog 27 #[u] w fun e w'=>∃ x,e = .returned (.tuple #[x,.int .i64 0]) ∧ IsTree w' x Q3p ∧ Ext w w':=by
 have h:=Y0w w u Q3e hu;rw [Z3z,Z2z] at h;exact h
theorem Z0b (w:World) (u:Value) (hu:IsTree w u Q3p) :
    Calls Tryz.prog 29 #[u] w fun e w'=>e = .returned (.tuple #[.agg #[.int .i64 7,.int .i64 16],.int .i64 0]) ∧ Ext w w':=by
 have h:=X0l w u Q3p hu;rw [Y7t,Z5n] at h;exact h
theorem Z3u (w:World) (u:Value) (hu:IsTree w u Q0p) :
    Calls Tryz.prog 55 #[u] w fun e w'=>e = .returned (.tuple #[.string Y9t,.int .i64 0]) ∧ Ext w w':=by
 have h:=Y6h w u Q0p hu;rw [Z4d,Y5e] at h;exact h
theorem Z3a (w:World) (u v:Value) (hu:Q4s w u [true,true,false,true,true]) (hv:Q4s w v [true,true,false,true,true]) :
    Calls Tryz.prog 64 #[u,v] w fun e w'=>e = .returned (.bool true) ∧ Ext w w':=by
 have h:=X8h w u v _ _ hu hv;rw [decide_eq_true rfl] at h;exact h
theorem Y9y (w:World) (u v:Value) (l:List (List Int)) (hu:Q1w w u l) (hv:Q1w w v l) :
    Calls Tryz.prog 31 #[u,v] w fun e w'=>e = .returned (.bool true) ∧ Ext w w':=by
 have h:=X9s w u v _ _ hu hv;rw [decide_eq_true rfl] at h;exact h
theorem Z3t (w:World) (u v:Value) (l:List Int) (hu:Q0f w u l) (hv:Q0f w v l) :
    Calls Tryz.prog 65 #[u,v] w fun e w'=>e = .returned (.bool true) ∧ Ext w w':=by
 have h:=Q7l w u v _ _ hu hv;rw [decide_eq_true rfl] at h;exact h
theorem Y3d (w:World) (a b c d:Int):(binOp .neq 59 (.agg #[.int .i64 a,.int .i64 b]) (.agg #[.int .i64 c,.int .i64 d])).run Tryz.prog w = .ok (.bool (!(a == c && b == d))) w:=by
 have h:=X0k w ⟨a,b⟩ ⟨c,d⟩;simp only [encR] at h;rw [run_eql_struct] at h;rw [run_neq_struct];generalize (Op.equalIn 10000 59 (.agg #[.int .i64 a,.int .i64 b]) (.agg #[.int .i64 c,.int .i64 d])).run Tryz.prog w = r at h ⊢;cases r with
 | ok x w1 =>
   simp only [Result.andThen_ok] at h ⊢;injection h with h1 h2;injection h1 with h1;rw [h1,h2]; rfl
 | _=>simp [Result.andThen] at h
theorem X9j (w:World) (a b c d:Int):(binOp .eql 59 (.agg #[.int .i64 a,.int .i64 b]) (.agg #[.int .i64 c,.int .i64 d])).run Tryz.prog w = .ok (.bool (a == c && b == d)) w:=X0k w ⟨a,b⟩ ⟨c,d⟩
theorem Y4w (w:World):(binOp .eql 85 (.agg #[.int .i64 151,.int .i64 256,.int .i64 83,.int .i64 128]) (.agg #[.int .i64 151,.int .i64 256,.int .i64 83,.int .i64 128])).run Tryz.prog w = .ok (.bool true) w:=by kernel_rfl
theorem Z1k {w:World} {g:Nat} {T:TypeId} {l:List Bool} (h:Blk w g T (l.map Value.bool).toArray) (hl:l.length ≤ 1000):Q4s w (.slice (some ⟨g,0,none⟩) l.length l.length) l:=by
 refine ⟨fun j=>.bool (l.getD j false),⟨some ⟨g,0,none⟩,l.length,rfl,by omega,Nat.le_refl _,fun j hj=>⟨g,0,rfl,?_⟩⟩,fun j hj=>?_⟩
 · have hj':j < l.length:=by omega
   rw [h.cell]; simp [hj']
 · simp [hj]
theorem Y4u {w:World} {g:Nat} {T:TypeId} {vs:List Value} {ll:List (List Int)} (h:Blk w g T vs.toArray) (hlen:vs.length = ll.length) (hl:ll.length ≤ 1000) (hv:∀ j (h1:j < vs.length) (h2:j < ll.length),Q0f w vs[j] ll[j]):Q1w w (.slice (some ⟨g,0,none⟩) ll.length ll.length) ll:=by
 refine ⟨fun j=>vs.getD j undef,⟨some ⟨g,0,none⟩,ll.length,rfl,by omega,Nat.le_refl _,fun j hj=>⟨g,0,rfl,?_⟩⟩,fun j hj=>?_⟩
 · have hj':j < vs.length:=by omega
   rw [h.cell]; simp [hj']
 · have hj':j < vs.length:=by omega
   have:=hv j hj' hj
   simpa [hj'] using this
theorem Y8t {w:World} {g:Nat} {T:TypeId} {a b:Value} {x y:List Int} (h:Blk w g T #[a,b]) (ha:Q0f w a x) (hb:Q0f w b y):Q1w w (.slice (some ⟨g,0,none⟩) 2 2) [x,y] :=
 Y4u (vs:=[a,b]) (ll:=[x,y]) h rfl (by simp) fun j h1 h2=>by
  have:j = 0 ∨ j = 1:=by simp at h1; omega
  rcases this with rfl | rfl
  · exact ha
  · exact hb
theorem Z4h {w:World} {g:Nat} {T:TypeId} {a b c:Value} {x y z:List Int} (h:Blk w g T #[a,b,c]) (ha:Q0f w a x) (hb:Q0f w b y) (hc:Q0f w c z):Q1w w (.slice (some ⟨g,0,none⟩) 3 3) [x,y,z] :=
 Y4u (vs:=[a,b,c]) (ll:=[x,y,z]) h rfl (by simp) fun j h1 h2=>by
  have:j = 0 ∨ j = 1 ∨ j = 2:=by simp at h1; omega
  rcases this with rfl | rfl | rfl
  · exact ha
  · exact hb
  · exact hc
theorem Y9e:Y9t.toList = [98,97,115,105,99,32,112,32,56,10,98,97,115,105,99,32,113,32,52,10,98,97,115,105,99,32,114,32,56,10,99,97,117,115,101,32,115,32,49,32,48,32,49,10,103,97,116,101,32,97,110,100,32,48,32,48,32,49,10,103,97,116,101,32,111,114,32,48,32,50,32,51,10]:=by simp [Y9t,go_sem]
theorem Z5h:(Y9t.toList == [98,97,115,105,99,32,112,32,56,10,98,97,115,105,99,32,113,32,52,10,98,97,115,105,99,32,114,32,56,10,99,97,117,115,101,32,115,32,49,32,48,32,49,10,103,97,116,101,32,97,110,100,32,48,32,48,32,49,10,103,97,116,101,32,111,114,32,48,32,50,32,51,10]) = true:=by rw [Y9e]; decide
theorem Y4r (w:World):Q0f w (.slice none 0 0) []:=Go.Tw.Rows.nil _ _ _
end Go.Proofs
