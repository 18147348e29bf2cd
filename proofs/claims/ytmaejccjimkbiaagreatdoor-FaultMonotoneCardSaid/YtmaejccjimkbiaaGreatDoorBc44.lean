/- The values of the program's functions at the document's tree, and their contracts there. -/
import Derived.Test.YtmaejccjimkbiaaGreatDoorBc43
import Derived.Test.YtmaejccjimkbiaaGreatDoorBc31
set_option linter.unusedVariables false
set_option linter.unusedSimpArgs false
set_option linter.constructorNameAsVariable false
namespace Go.Proofs
open Go.RowKit Go.Tw Go.Flow
def sampleW:Tree:=⟨[⟨ch1 112,8⟩,⟨ch1 113,4⟩,⟨ch1 114,8⟩],[],[⟨sAnd,0,[0,1]⟩,⟨sOr,0,[2,3]⟩]⟩
def sampleD:Tree:=⟨[⟨ch1 112,8⟩,⟨ch1 113,12⟩,⟨ch1 114,8⟩],[],[⟨sOr,0,[0,1]⟩,⟨sAnd,0,[2,3]⟩]⟩
def textT:ByteArray:=⟨#[98,97,115,105,99,32,112,32,56,10,98,97,115,105,99,32,113,32,52,10,98,97,115,105,99,32,114,32,56,10,99,97,117,115,101,32,115,32,49,32,48,32,49,10,103,97,116,101,32,97,110,100,32,48,32,48,32,49,10,103,97,116,101,32,111,114,32,48,32,50,32,51,10]⟩
theorem v_err:sampleT.err = 0:=by kernel_rfl
theorem v_fails1:failsR sampleT [0,1] = true:=by kernel_rfl
theorem v_fails2:failsR sampleT [0] = false:=by kernel_rfl
theorem v_set01:treeSetErr sampleT [0,1] = 0:=by kernel_rfl
theorem v_set0:treeSetErr sampleT [0] = 0:=by kernel_rfl
theorem v_set3:treeSetErr sampleT [3] = 0:=by kernel_rfl
theorem v_set2:treeSetErr sampleT [2] = 0:=by kernel_rfl
theorem v_states:statesR sampleT [3] = [true,true,false,true,true]:=by kernel_rfl
theorem v_cuts:setsR sampleT false = [[2],[3],[0,1]]:=by kernel_rfl
theorem v_paths:setsR sampleT true = [[0,2,3],[1,2,3]]:=by kernel_rfl
theorem v_single:singleR sampleT = [2,3]:=by kernel_rfl
theorem v_chance:chanceR sampleT = ⟨151,256⟩:=by kernel_rfl
theorem v_given1:givenR sampleT [2] [] = ⟨1,1⟩:=by kernel_rfl
theorem v_givenE1:givenErr sampleT [2] [] = 0:=by kernel_rfl
theorem v_given2:givenR sampleT [] [2] = ⟨23,128⟩:=by kernel_rfl
theorem v_givenE2:givenErr sampleT [] [2] = 0:=by kernel_rfl
theorem v_imp:importanceR sampleT 2 = ⟨105,128⟩:=by kernel_rfl
theorem v_impW:decide (0 ≤ impW sampleT 2) = true:=by kernel_rfl
theorem v_share:shareR sampleT 2 = ⟨128,151⟩:=by kernel_rfl
theorem v_shareE:shareErr sampleT 2 = 0:=by kernel_rfl
theorem v_crit:criticalR sampleT 2 = 3:=by kernel_rfl
theorem v_bound:boundR sampleT = ⟨11,16⟩:=by kernel_rfl
theorem v_cc:ccErr sampleT [[2],[0,1]] [[0,2,3],[1,2,3]] = 22:=by kernel_rfl
theorem v_intE:intervalErr sampleT [16,4,8,1] = 0:=by kernel_rfl
theorem v_low:lowR sampleT [16,4,8,1] = ⟨151,256⟩:=by kernel_rfl
theorem v_high:highR sampleT [16,4,8,1] = ⟨83,128⟩:=by kernel_rfl
theorem v_nextE:nextErr sampleT = 0:=by kernel_rfl
theorem v_nextA:nextAt sampleT = 2:=by kernel_rfl
theorem v_nextR:nextR sampleT = ⟨23,128⟩:=by kernel_rfl
theorem v_woE:withoutErr sampleT 0 = 0:=by kernel_rfl
theorem v_woT:withoutT sampleT 0 = sampleW:=by kernel_rfl
theorem v_errW:sampleW.err = 0:=by kernel_rfl
theorem v_chanceW:chanceR sampleW = ⟨9,16⟩:=by kernel_rfl
theorem v_dualE:dualErr sampleW = 0:=by kernel_rfl
theorem v_dualT:dualT sampleW = sampleD:=by kernel_rfl
theorem v_errD:sampleD.err = 0:=by kernel_rfl
theorem v_chanceD:chanceR sampleD = ⟨7,16⟩:=by kernel_rfl
theorem v_print:printS sampleT = textT:=by kernel_rfl
theorem s_fails1 (w:World) (u v:Value) (hu:IsTree w u sampleT) (hv:IsInts w v [0,1]) :
    Calls Tryz.prog 22 #[u,v] w fun e w'=>e = .returned (.tuple #[.bool true,.int .i64 0]) ∧ Ext w w':=by
 have h:=pFails_any w u v sampleT [0,1] hu hv
 rw [v_fails1,v_set01] at h
 exact h
theorem s_fails2 (w:World) (u v:Value) (hu:IsTree w u sampleT) (hv:IsInts w v [0]) :
    Calls Tryz.prog 22 #[u,v] w fun e w'=>e = .returned (.tuple #[.bool false,.int .i64 0]) ∧ Ext w w':=by
 have h:=pFails_any w u v sampleT [0] hu hv
 rw [v_fails2,v_set0] at h
 exact h
theorem s_states (w:World) (u v:Value) (hu:IsTree w u sampleT) (hv:IsInts w v [3]) :
    Calls Tryz.prog 61 #[u,v] w fun e w'=>∃ x,e = .returned (.tuple #[x,.int .i64 0]) ∧ IsBools w' x [true,true,false,true,true] ∧ Ext w w':=by
 have h:=pStates_any w u v sampleT [3] hu hv
 rw [v_states,v_set3] at h
 exact h
theorem s_cuts (w:World) (u:Value) (hu:IsTree w u sampleT) (hT:Tab w) :
    Calls Tryz.prog 13 #[u] w fun e w'=>∃ x,e = .returned (.tuple #[x,.int .i64 0]) ∧ IsIntss w' x [[2],[3],[0,1]] ∧ Ext w w':=by
 have h:=pCuts_any w u sampleT hu hT
 rw [v_cuts,v_err] at h
 exact h
theorem s_paths (w:World) (u:Value) (hu:IsTree w u sampleT) (hT:Tab w) :
    Calls Tryz.prog 15 #[u] w fun e w'=>∃ x,e = .returned (.tuple #[x,.int .i64 0]) ∧ IsIntss w' x [[0,2,3],[1,2,3]] ∧ Ext w w':=by
 have h:=pPaths_any w u sampleT hu hT
 rw [v_paths,v_err] at h
 exact h
theorem s_single (w:World) (u:Value) (hu:IsTree w u sampleT) :
    Calls Tryz.prog 16 #[u] w fun e w'=>∃ x,e = .returned (.tuple #[x,.int .i64 0]) ∧ IsInts w' x [2,3] ∧ Ext w w':=by
 have h:=pSingle_any w u sampleT hu
 rw [v_single,v_err] at h
 exact h
theorem s_chance (w:World) (u:Value) (hu:IsTree w u sampleT) :
    Calls Tryz.prog 29 #[u] w fun e w'=>e = .returned (.tuple #[.agg #[.int .i64 151,.int .i64 256],.int .i64 0]) ∧ Ext w w':=by
 have h:=pChance_any w u sampleT hu
 rw [v_chance,v_err] at h
 exact h
theorem s_given1 (w:World) (u v z:Value) (hu:IsTree w u sampleT) (hv:IsInts w v [2]) (hz:IsInts w z []) :
    Calls Tryz.prog 45 #[u,v,z] w fun e w'=>e = .returned (.tuple #[.agg #[.int .i64 1,.int .i64 1],.int .i64 0]) ∧ Ext w w':=by
 have h:=pGiven_any w u v z sampleT [2] [] hu hv hz
 rw [v_given1,v_givenE1] at h
 exact h
theorem s_given2 (w:World) (u v z:Value) (hu:IsTree w u sampleT) (hv:IsInts w v []) (hz:IsInts w z [2]) :
    Calls Tryz.prog 45 #[u,v,z] w fun e w'=>e = .returned (.tuple #[.agg #[.int .i64 23,.int .i64 128],.int .i64 0]) ∧ Ext w w':=by
 have h:=pGiven_any w u v z sampleT [] [2] hu hv hz
 rw [v_given2,v_givenE2] at h
 exact h
theorem s_imp (w:World) (u:Value) (hu:IsTree w u sampleT) :
    Calls Tryz.prog 46 #[u,.int .i64 2] w fun e w'=>e = .returned (.tuple #[.agg #[.int .i64 105,.int .i64 128],.int .i64 0]) ∧ Ext w w':=by
 have h:=pImportance_any w u sampleT 2 hu (fun _=>of_decide_eq_true v_impW)
 rw [v_imp,v_set2] at h
 exact h
theorem s_share (w:World) (u:Value) (hu:IsTree w u sampleT) :
    Calls Tryz.prog 62 #[u,.int .i64 2] w fun e w'=>e = .returned (.tuple #[.agg #[.int .i64 128,.int .i64 151],.int .i64 0]) ∧ Ext w w':=by
 have h:=pShare_any w u sampleT 2 hu
 rw [v_share,v_shareE] at h
 exact h
theorem s_crit (w:World) (u:Value) (hu:IsTree w u sampleT) :
    Calls Tryz.prog 63 #[u,.int .i64 2] w fun e w'=>e = .returned (.tuple #[.int .i64 3,.int .i64 0]) ∧ Ext w w':=by
 have h:=pCritical_any w u sampleT 2 hu
 rw [v_crit,v_set2] at h
 exact h
theorem s_bound (w:World) (u:Value) (hu:IsTree w u sampleT) (hT:Tab w) :
    Calls Tryz.prog 47 #[u] w fun e w'=>e = .returned (.tuple #[.agg #[.int .i64 11,.int .i64 16],.int .i64 0]) ∧ Ext w w':=by
 have h:=pBound_any w u sampleT hu hT
 rw [v_bound,v_err] at h
 exact h
theorem s_cc (w:World) (u v z:Value) (hu:IsTree w u sampleT) (hv:IsIntss w v [[2],[0,1]]) (hz:IsIntss w z [[0,2,3],[1,2,3]]) :
    Calls Tryz.prog 25 #[u,v,z] w fun e w'=>e = .returned (.int .i64 22) ∧ Ext w w':=by
 have h:=pCheckCuts_any w u v z sampleT _ _ hu hv hz
 rw [v_cc] at h
 exact h
theorem s_interval (w:World) (u v:Value) (hu:IsTree w u sampleT) (hv:IsInts w v [16,4,8,1]) :
    Calls Tryz.prog 48 #[u,v] w fun e w'=>e = .returned (.tuple #[.agg #[.int .i64 151,.int .i64 256,.int .i64 83,.int .i64 128],.int .i64 0]) ∧ Ext w w':=by
 have h:=pInterval_any w u v sampleT _ hu hv
 rw [v_low,v_high,v_intE] at h
 exact h
theorem s_next (w:World) (u:Value) (hu:IsTree w u sampleT) :
    Calls Tryz.prog 51 #[u] w fun e w'=>e = .returned (.tuple #[.int .i64 2,.agg #[.int .i64 23,.int .i64 128],.int .i64 0]) ∧ Ext w w':=by
 have h:=pNext_any w u sampleT hu
 rw [v_nextA,v_nextR,v_nextE] at h
 exact h
theorem s_without (w:World) (u:Value) (hu:IsTree w u sampleT) :
    Calls Tryz.prog 35 #[u,.int .i64 0] w fun e w'=>∃ x,e = .returned (.tuple #[x,.int .i64 0]) ∧ IsTree w' x sampleW ∧ Ext w w':=by
 have h:=pWithout_any w u sampleT 0 hu (by omega) (by omega)
 rw [v_woE,v_woT] at h
 exact h
theorem s_chanceW (w:World) (u:Value) (hu:IsTree w u sampleW) :
    Calls Tryz.prog 29 #[u] w fun e w'=>e = .returned (.tuple #[.agg #[.int .i64 9,.int .i64 16],.int .i64 0]) ∧ Ext w w':=by
 have h:=pChance_any w u sampleW hu
 rw [v_chanceW,v_errW] at h
 exact h
theorem s_dual (w:World) (u:Value) (hu:IsTree w u sampleW) :
    Calls Tryz.prog 27 #[u] w fun e w'=>∃ x,e = .returned (.tuple #[x,.int .i64 0]) ∧ IsTree w' x sampleD ∧ Ext w w':=by
 have h:=pDual_any w u sampleW hu
 rw [v_dualE,v_dualT] at h
 exact h
theorem s_chanceD (w:World) (u:Value) (hu:IsTree w u sampleD) :
    Calls Tryz.prog 29 #[u] w fun e w'=>e = .returned (.tuple #[.agg #[.int .i64 7,.int .i64 16],.int .i64 0]) ∧ Ext w w':=by
 have h:=pChance_any w u sampleD hu
 rw [v_chanceD,v_errD] at h
 exact h
theorem s_print (w:World) (u:Value) (hu:IsTree w u sampleT) :
    Calls Tryz.prog 55 #[u] w fun e w'=>e = .returned (.tuple #[.string textT,.int .i64 0]) ∧ Ext w w':=by
 have h:=pPrint_any w u sampleT hu
 rw [v_print,v_err] at h
 exact h
theorem s_sameB (w:World) (u v:Value) (hu:IsBools w u [true,true,false,true,true]) (hv:IsBools w v [true,true,false,true,true]) :
    Calls Tryz.prog 64 #[u,v] w fun e w'=>e = .returned (.bool true) ∧ Ext w w':=by
 have h:=sameBools_any w u v _ _ hu hv
 rw [decide_eq_true rfl] at h
 exact h
theorem s_sameS (w:World) (u v:Value) (l:List (List Int)) (hu:IsIntss w u l) (hv:IsIntss w v l) :
    Calls Tryz.prog 31 #[u,v] w fun e w'=>e = .returned (.bool true) ∧ Ext w w':=by
 have h:=sameSets_any w u v _ _ hu hv
 rw [decide_eq_true rfl] at h
 exact h
theorem s_sameI (w:World) (u v:Value) (l:List Int) (hu:IsInts w u l) (hv:IsInts w v l) :
    Calls Tryz.prog 65 #[u,v] w fun e w'=>e = .returned (.bool true) ∧ Ext w w':=by
 have h:=sameInts_any w u v _ _ hu hv
 rw [decide_eq_true rfl] at h
 exact h
theorem run_neq_rat (w:World) (a b c d:Int):(binOp .neq 59 (.agg #[.int .i64 a,.int .i64 b]) (.agg #[.int .i64 c,.int .i64 d])).run Tryz.prog w = .ok (.bool (!(a == c && b == d))) w:=by
 have h:=run_eql_rat w ⟨a,b⟩ ⟨c,d⟩
 simp only [encR] at h
 rw [run_eql_struct] at h
 rw [run_neq_struct]
 generalize (Op.equalIn 10000 59 (.agg #[.int .i64 a,.int .i64 b]) (.agg #[.int .i64 c,.int .i64 d])).run Tryz.prog w = r at h ⊢
 cases r with
 | ok x w1 =>
   simp only [Result.andThen_ok] at h ⊢
   injection h with h1 h2
   injection h1 with h1
   rw [h1,h2]; rfl
 | _=>simp [Result.andThen] at h
theorem run_eql_ratI (w:World) (a b c d:Int):(binOp .eql 59 (.agg #[.int .i64 a,.int .i64 b]) (.agg #[.int .i64 c,.int .i64 d])).run Tryz.prog w = .ok (.bool (a == c && b == d)) w:=run_eql_rat w ⟨a,b⟩ ⟨c,d⟩
theorem run_eql_r2 (w:World):(binOp .eql 85 (.agg #[.int .i64 151,.int .i64 256,.int .i64 83,.int .i64 128]) (.agg #[.int .i64 151,.int .i64 256,.int .i64 83,.int .i64 128])).run Tryz.prog w = .ok (.bool true) w:=by kernel_rfl
theorem bools_at {w:World} {g:Nat} {T:TypeId} {l:List Bool} (h:Blk w g T (l.map Value.bool).toArray) (hl:l.length ≤ 1000):IsBools w (.slice (some ⟨g,0,none⟩) l.length l.length) l:=by
 refine ⟨fun j=>.bool (l.getD j false),⟨some ⟨g,0,none⟩,l.length,rfl,by omega,Nat.le_refl _,fun j hj=>⟨g,0,rfl,?_⟩⟩,fun j hj=>?_⟩
 · have hj':j < l.length:=by omega
   rw [h.cell]; simp [hj']
 · simp [hj]
theorem intss_at {w:World} {g:Nat} {T:TypeId} {vs:List Value} {ll:List (List Int)} (h:Blk w g T vs.toArray) (hlen:vs.length = ll.length) (hl:ll.length ≤ 1000) (hv:∀ j (h1:j < vs.length) (h2:j < ll.length),IsInts w vs[j] ll[j]):IsIntss w (.slice (some ⟨g,0,none⟩) ll.length ll.length) ll:=by
 refine ⟨fun j=>vs.getD j undef,⟨some ⟨g,0,none⟩,ll.length,rfl,by omega,Nat.le_refl _,fun j hj=>⟨g,0,rfl,?_⟩⟩,fun j hj=>?_⟩
 · have hj':j < vs.length:=by omega
   rw [h.cell]; simp [hj']
 · have hj':j < vs.length:=by omega
   have:=hv j hj' hj
   simpa [hj'] using this
theorem intss2 {w:World} {g:Nat} {T:TypeId} {a b:Value} {x y:List Int} (h:Blk w g T #[a,b]) (ha:IsInts w a x) (hb:IsInts w b y):IsIntss w (.slice (some ⟨g,0,none⟩) 2 2) [x,y] :=
 intss_at (vs:=[a,b]) (ll:=[x,y]) h rfl (by simp) fun j h1 h2=>by
  have:j = 0 ∨ j = 1:=by simp at h1; omega
  rcases this with rfl | rfl
  · exact ha
  · exact hb
theorem intss3 {w:World} {g:Nat} {T:TypeId} {a b c:Value} {x y z:List Int} (h:Blk w g T #[a,b,c]) (ha:IsInts w a x) (hb:IsInts w b y) (hc:IsInts w c z):IsIntss w (.slice (some ⟨g,0,none⟩) 3 3) [x,y,z] :=
 intss_at (vs:=[a,b,c]) (ll:=[x,y,z]) h rfl (by simp) fun j h1 h2=>by
  have:j = 0 ∨ j = 1 ∨ j = 2:=by simp at h1; omega
  rcases this with rfl | rfl | rfl
  · exact ha
  · exact hb
  · exact hc
theorem text_list:textT.toList = [98,97,115,105,99,32,112,32,56,10,98,97,115,105,99,32,113,32,52,10,98,97,115,105,99,32,114,32,56,10,99,97,117,115,101,32,115,32,49,32,48,32,49,10,103,97,116,101,32,97,110,100,32,48,32,48,32,49,10,103,97,116,101,32,111,114,32,48,32,50,32,51,10]:=by simp [textT,go_sem]
theorem v_text:(textT.toList == [98,97,115,105,99,32,112,32,56,10,98,97,115,105,99,32,113,32,52,10,98,97,115,105,99,32,114,32,56,10,99,97,117,115,101,32,115,32,49,32,48,32,49,10,103,97,116,101,32,97,110,100,32,48,32,48,32,49,10,103,97,116,101,32,111,114,32,48,32,50,32,51,10]) = true:=by rw [text_list]; decide
theorem nil_ints (w:World):IsInts w (.slice none 0 0) []:=Go.Tw.Rows.nil _ _ _
end Go.Proofs
