/- Contract: the closure of CheckTree, which keeps the names in a map. Contract: CheckTree. -/
import Derived.Test.YtmaejccjimkbiaaGreatDoorBc12
set_option linter.unusedVariables false
set_option linter.unusedSimpArgs false
set_option linter.constructorNameAsVariable false
namespace Go.Proofs
open Go.RowKit Go.Tw Go.Flow
theorem find_put (s x:ByteArray) (v:Value):∀ l:List (ByteArray × Value),findS x (putS s v l) = if x = s then some v else findS x l
 | []=>by
   unfold putS findS
   by_cases h:x = s
   · rw [if_pos (str_eq h),if_pos h]
   · rw [str_ne h,if_neg (by simp),if_neg h]; rfl
 | p :: l=>by
   unfold putS
   by_cases hs:(s == p.1) = true
   · have hsp:=str_beq hs
     rw [if_pos hs]
     unfold findS
     by_cases h:x = s
     · rw [if_pos (str_eq h),if_pos h]
     · rw [str_ne h,if_neg (by simp),if_neg h,if_neg (by rw [str_ne (by rw [← hsp]; exact h)]; simp)]
   · rw [if_neg hs]
     unfold findS
     rw [find_put s x v l]
     by_cases h:x = s
     · simp only [if_pos h]; rw [if_neg (by rw [h]; exact hs)]
     · simp only [if_neg h]
def Knows (l:List (ByteArray × Value)) (ev:ByteArray → Bool):Prop:=∀ s,(findS s l).getD (.bool false) = .bool (ev s)
theorem Knows.nil:Knows [] (fun _=>false):=fun _=>rfl
theorem Knows.put {l:List (ByteArray × Value)} {ev:ByteArray → Bool} (h:Knows l ev) (s:ByteArray):Knows (putS s (.bool true) l) (fun x=>ev x || decide (x = s)):=fun x=>by
 rw [find_put]
 by_cases hx:x = s
 · rw [if_pos hx]; simp [hx]
 · rw [if_neg hx,h x]; simp [hx]
def checkN (s:ByteArray) (c:Int) (kn:Bool):Int:=firstErr [whenI (!nameB s) 8,rangeErr c 0 16,whenI kn 9]
theorem uKnown:Tryz.prog.underlying 173 = some (.map 9 4):=by kernel_rfl
theorem zBool (w:World):(zeroValue 4).run Tryz.prog w = .ok (.bool false) w:=by kernel_rfl
set_option maxRecDepth 100000 in
set_option maxHeartbeats 2000000 in
theorem checkN_any (w:World) (s:ByteArray) (c:Int) (B b:Nat) (l:List (ByteArray × Value)) (ev:ByteArray → Bool) (hs:Short s) (hB:w.cell? ⟨B,0,none⟩ = some (.map (some b))) (hm:StrMap w b l) (hk:Knows l ev) :
    Calls Tryz.prog 121 #[.string s,.int .i64 c,.pointer (some ⟨B,0,none⟩)] w fun e w'=>e = .returned (.int .i64 (checkN s c (ev s))) ∧ StrMap w' b (putS s (.bool true) l) ∧ w'.cell? ⟨B,0,none⟩ = some (.map (some b)) ∧ (∀ n,n ≤ b → Below n w w') ∧ w.grownBy w' (some b):=by
 have HM:=Lib.hid hm
 have HS:=Lib.hid hs
 obtain ⟨kn,hkn⟩:∃ kn,ev s = kn:=⟨_,rfl⟩
 have HLK:Hid (∀ w',Ext w w' → (Instr.lookup 173 (.map (some b)) (.string s) false).run Tryz.prog w' = .ok (.bool kn) w'):=by
  exact (by intro w' h; have h:=run_lookup_str (P:=Tryz.prog) (hm.ext h) uKnown uStr (zBool _) s false; rw [if_neg (by simp),hk s,hkn] at h; exact h:∀ w',Ext w w' → (Instr.lookup 173 (.map (some b)) (.string s) false).run Tryz.prog w' = .ok (.bool kn) w')
 rw [hkn]
 obtain ⟨nb,hnb⟩:∃ nb,nameB s = nb:=⟨_,rfl⟩
 have HNB:Hid (∀ w',Calls Tryz.prog 122 #[.string s] w' fun e w''=>e = .returned (.bool nb) ∧ Ext w' w''):=by
  exact (by intro w'; rw [← hnb]; exact isName_any w' s hs:∀ w',Calls Tryz.prog 122 #[.string s] w' fun e w''=>e = .returned (.bool nb) ∧ Ext w' w'')
 obtain ⟨E,hE⟩:∃ E,firstErr [whenI (!nb) 8,rangeErr c 0 16,whenI kn 9] = E:=⟨_,rfl⟩
 have HE:Hid (∀ (w':World) (u:Value),IsInts w' u [whenI (!nb) 8,rangeErr c 0 16,whenI kn 9] → Calls Tryz.prog 74 #[u] w' fun e w''=>e = .returned (.int .i64 E) ∧ w' = w''):=by
  exact (by intro w' u h; rw [← hE]; exact first_any _ _ _ h:∀ (w':World) (u:Value),IsInts w' u [whenI (!nb) 8,rangeErr c 0 16,whenI kn 9] → Calls Tryz.prog 74 #[u] w' fun e w''=>e = .returned (.int .i64 E) ∧ w' = w'')
 have hfin:checkN s c kn = E:=by unfold checkN; rw [hnb]; exact hE
 rw [hfin]
 clear hm hk hkn hs hnb hE hfin
 go_enter Tryz.func121,Tryz.ntmps121
 go_wp2
 refine Flow.region0 [.plain,.world,.plain,.world,.plain,.world,.world,.plain,.world,.world,.world,.world,.plain] [0,1,2,3,4,5,6,7,8,9,10,11,12] [[],[0],[1],[1,2],[],[3,4],[],[],[6,7],[5,8],[3,5,9],[9,10],[0,1,2,3,4,5,6,7,8,9,10,11]]
  [.is 0 (fun v=>.string s),.is 1 (fun v=>.bool nb),.is 2 (fun v=>.bool (!nb)),.is 3 (fun v=>.int .i64 (whenI (!nb) 8)),.is 4 (fun v=>.int .i64 c),.is 5 (fun v=>.int .i64 (rangeErr c 0 16)),.is 6 (fun v=>.map (some b)),.is 7 (fun v=>.string s),.is 8 (fun v=>.bool kn),.is 9 (fun v=>.int .i64 (whenI kn 9)),⟨fun v wz=>IsInts wz (v 10) [whenI (!nb) 8,rangeErr c 0 16,whenI kn 9],fun _ _ _ hx h=>h.ext hx⟩,.is 11 (fun v=>.int .i64 E),.is 12 (fun v=>.int .i64 E)]
  (by kernel_rfl) rfl (by kernel_rfl) ⟨?g0,?g1,?g2,?g3,?g4,?g5,?g6,?g7,?g8,?g9,?g10,?g11,?g12,trivial⟩ ?post
 case g0 =>
  intro v w1 hx
  refine ⟨_,fun w=>?_,rfl⟩
  go_simp
 case g1 =>
  intro v w1 hx (q0:v 0 = .string s)
  intro K hK
  go_simp
  refine gives_call (HNB.out _) ?_
  rintro e w2 ⟨rfl,hx2⟩
  exact ⟨_,rfl,hK _ _ hx2 rfl⟩
 case g2 =>
  intro v w1 hx (q1:v 1 = .bool nb)
  refine ⟨_,fun w=>?_,rfl⟩
  go_simp
 case g3 =>
  intro v w1 hx (q1:v 1 = .bool nb) (q2:v 2 = .bool (!nb))
  intro K hK
  go_simp
  refine gives_call (when_any _ _ _) ?_
  rintro e w2 ⟨rfl,rfl⟩
  exact ⟨_,rfl,hK _ _ (Ext.refl _) rfl⟩
 case g4 =>
  intro v w1 hx
  refine ⟨_,fun w=>?_,rfl⟩
  go_simp
 case g5 =>
  intro v w1 hx (q3:v 3 = .int .i64 (whenI (!nb) 8)) (q4:v 4 = .int .i64 c)
  intro K hK
  go_simp
  refine gives_call (within_any _ _ _ _) ?_
  rintro e w2 ⟨rfl,rfl⟩
  exact ⟨_,rfl,hK _ _ (Ext.refl _) rfl⟩
 case g6 =>
  intro v w1 hx
  have hB:=hx.cell hB
  intro K hK
  go_simp
  exact hK _ _ (Ext.refl _) rfl
 case g7 =>
  intro v w1 hx
  refine ⟨_,fun w=>?_,rfl⟩
  go_simp
 case g8 =>
  intro v w1 hx (q6:v 6 = .map (some b)) (q7:v 7 = .string s)
  have hlk:=HLK.out _ ((Ext.refl w).drew.trans hx)
  intro K hK
  go_simp
  exact hK _ _ (Ext.refl _) rfl
 case g9 =>
  intro v w1 hx (q5:v 5 = .int .i64 (rangeErr c 0 16)) (q8:v 8 = .bool kn)
  intro K hK
  go_simp
  refine gives_call (when_any _ _ _) ?_
  rintro e w2 ⟨rfl,rfl⟩
  exact ⟨_,rfl,hK _ _ (Ext.refl _) rfl⟩
 case g10 =>
  intro v w1 hx (q3:v 3 = .int .i64 (whenI (!nb) 8)) (q5:v 5 = .int .i64 (rangeErr c 0 16)) (q9:v 9 = .int .i64 (whenI kn 9))
  intro K hK
  go_simp
  exact hK _ _ (Ext.box _ _) (ints_new (l:=[whenI (!nb) 8,rangeErr c 0 16,whenI kn 9]) (by simp))
 case g11 =>
  intro v w1 hx (q9:v 9 = .int .i64 (whenI kn 9)) (q10:IsInts w1 (v 10) [whenI (!nb) 8,rangeErr c 0 16,whenI kn 9])
  intro K hK
  go_simp
  refine gives_call (HE.out _ _ q10) ?_
  rintro e w2 ⟨rfl,rfl⟩
  exact ⟨_,rfl,hK _ _ (Ext.refl _) rfl⟩
 case g12 =>
  intro v w1 hx (q0:v 0 = .string s) (q1:v 1 = .bool nb) (q2:v 2 = .bool (!nb)) (q3:v 3 = .int .i64 (whenI (!nb) 8)) (q4:v 4 = .int .i64 c) (q5:v 5 = .int .i64 (rangeErr c 0 16)) (q6:v 6 = .map (some b)) (q7:v 7 = .string s) (q8:v 8 = .bool kn) (q9:v 9 = .int .i64 (whenI kn 9)) (q10:IsInts w1 (v 10) [whenI (!nb) 8,rangeErr c 0 16,whenI kn 9]) (q11:v 11 = .int .i64 E)
  refine ⟨_,fun w=>?_,rfl⟩
  go_simp
 case post =>
  intro v w1 hx (q0:v 0 = .string s) (q1:v 1 = .bool nb) (q2:v 2 = .bool (!nb)) (q3:v 3 = .int .i64 (whenI (!nb) 8)) (q4:v 4 = .int .i64 c) (q5:v 5 = .int .i64 (rangeErr c 0 16)) (q6:v 6 = .map (some b)) (q7:v 7 = .string s) (q8:v 8 = .bool kn) (q9:v 9 = .int .i64 (whenI kn 9)) (q10:IsInts w1 (v 10) [whenI (!nb) 8,rangeErr c 0 16,whenI kn 9]) (q11:v 11 = .int .i64 E) (q12:v 12 = .int .i64 E)
  simp only [Flow.All,Flow.acts,Act.put]
  go_simp
  have hxx:=(Ext.refl w).drew.trans hx
  obtain ⟨w2,hput,hm2,hb2,hg2⟩:=run_put_str (P:=Tryz.prog) (HM.out.ext hxx) uKnown uStr s (.bool true)
  have hB1:=hxx.cell hB
  have hbl:b < w.heap.size:=HM.out.lt
  have hne:b ≠ B:=fun e=>by
   obtain ⟨a0,c0,h0,_⟩:=HM.out
   rw [e] at h0
   simp [World.cell?,h0] at hB
  have hB2:w2.cell? ⟨B,0,none⟩ = some (.map (some b)):=(grown_cell hg2 (World.block_lt_of_cell? _ _ hB1) (by intro h; injection h with h; exact hne h.symm)).trans hB1
  have HX:=Lib.hid hxx
  have hgx:w.grownBy w1 (some b):=⟨hxx.os,hxx.tape,hxx.output,hxx.size,fun k hk _=>hxx.block k hk⟩
  have HG2:Hid (w.grownBy w2 (some b)):=by exact hgx.trans hg2
  have HM2:=Lib.hid hm2
  have HB2:=Lib.hid hb2
  clear hm2 hb2 hB hne hxx hg2 hgx
  go_wp2
  go_ret
  exact ⟨rfl,HM2.out,hB2,fun n hn=>Below.trans (Below.mono HX.out (by omega)) (HB2.out n hn),HG2.out⟩
end Go.Proofs
namespace Go.Proofs
open Go.RowKit Go.Tw Go.Flow
def selV (b:Bool) (x:Value):Value:=if b then undef else x
theorem first_snoc0 (a b c:Int):firstErr [a,b,c,0] = firstErr [a,b,c]:=by
 simp only [firstErr]; split <;> (try split) <;> (try split) <;> simp
def known (t:Tree) (i:Nat) (s:ByteArray):Bool:=(List.range i).any fun k=>t.nameAt k == s
theorem known_succ (t:Tree) (i:Nat):known t (i + 1) = fun x=>known t i x || decide (x = t.nameAt i):=by
 funext x
 unfold known
 rw [List.range_succ,List.any_append]
 congr 1
 simp only [List.any_cons,List.any_nil,Bool.or_false]
 by_cases h:x = t.nameAt i
 · rw [str_eq h.symm,decide_eq_true h]
 · rw [str_ne (fun e=>h e.symm),decide_eq_false h]
theorem basic_err (t:Tree) {i:Nat} (h:i < t.basics.length):checkN (bName t.basics i) (bChance t.basics i) (known t i (bName t.basics i)) = t.eventErr i:=by
 have hn:t.nameAt i = bName t.basics i:=by unfold Tree.nameAt; rw [if_pos h]
 have hc:t.chanceAt i = bChance t.basics i:=by unfold Tree.chanceAt; rw [if_pos h]
 unfold Tree.eventErr checkN whenI nameErr Tree.twiceB known
 rw [hn,hc,if_pos h,first_snoc0]
 cases nameB (bName t.basics i) <;> rfl
def causeE (e:Int) (m:List Int) (nb:Nat):Int:=firstErr [e,whenI ((m.length:Int) == 0) 12,setErr m nb]
theorem first_app:∀ l r:List Int,firstErr (l ++ r) = if firstErr l = 0 then firstErr r else firstErr l
 | [],r=>by simp [firstErr]
 | x :: l,r=>by
   rw [List.cons_append,firstErr,firstErr]
   by_cases h:x = 0
   · rw [if_pos h,if_pos h]; exact first_app l r
   · rw [if_neg h,if_neg h,if_neg h]
theorem first_nest (a b c d:Int):firstErr [firstErr [a,b,c],d] = firstErr [a,b,c,d]:=by
 rw [show [a,b,c,d] = [a,b,c] ++ [d] from rfl,first_app]
 generalize firstErr [a,b,c] = x
 simp only [firstErr]
theorem first_list (x:Int) (m:List Int) (n:Int):firstErr [x,whenI ((m.length:Int) == 0) 12,setErr m n] = firstErr [x,listErr m n]:=by
 unfold listErr whenI
 cases m with
 | nil=>simp [firstErr]
 | cons y l =>
   have h0:(((y :: l).length:Int) == 0) = false:=by rw [beq_eq_false_iff_ne]; simp; omega
   rw [h0]
   simp [firstErr]
theorem cause_err (t:Tree) (j:Nat):causeE (checkN (cName t.causes j) (cChance t.causes j) (known t (t.basics.length + j) (cName t.causes j))) (cMembers t.causes j) t.basics.length = t.eventErr (t.basics.length + j):=by
 have hn:t.nameAt (t.basics.length + j) = cName t.causes j:=by unfold Tree.nameAt; rw [if_neg (by omega),Nat.add_sub_cancel_left]
 have hc:t.chanceAt (t.basics.length + j) = cChance t.causes j:=by unfold Tree.chanceAt; rw [if_neg (by omega),Nat.add_sub_cancel_left]
 have hl:(if t.basics.length + j < t.basics.length then 0 else listErr (cMembers t.causes (t.basics.length + j - t.basics.length)) t.basics.length) = listErr (cMembers t.causes j) t.basics.length:=by rw [if_neg (by omega),Nat.add_sub_cancel_left]
 have hw:nameErr (cName t.causes j) = whenI (!nameB (cName t.causes j)) 8:=by unfold nameErr whenI; cases nameB (cName t.causes j) <;> rfl
 unfold Tree.eventErr causeE checkN Tree.twiceB
 rw [hl,hn,hc,hw,first_list,first_nest]
 rfl
theorem first_at {n:Nat} {e:Nat → Int} {r:List Int} {k:Nat} (hk:k < n) (hz:∀ j,j < k → e j = 0) (hne:e k ≠ 0):firstErr ((List.range n).map e ++ r) = e k:=by
 obtain ⟨m,rfl⟩:∃ m,n = k + (m + 1):=⟨n - k - 1,by omega⟩
 have h0:firstErr ((List.range k).map e) = 0:=by
  rw [firstErr_zero]
  intro x hx
  obtain ⟨j,hj,rfl⟩:=List.mem_map.1 hx
  exact hz j (List.mem_range.1 hj)
 rw [List.range_add,List.map_append,List.append_assoc,first_app,if_pos h0,List.range_succ_eq_map]
 simp [firstErr,hne]
theorem first_none {n:Nat} {e:Nat → Int} {r:List Int} (hz:∀ j,j < n → e j = 0):firstErr ((List.range n).map e ++ r) = firstErr r:=by
 have h0:firstErr ((List.range n).map e) = 0:=by
  rw [firstErr_zero]
  intro x hx
  obtain ⟨j,hj,rfl⟩:=List.mem_map.1 hx
  exact hz j (List.mem_range.1 hj)
 rw [first_app,if_pos h0]
theorem zero_or (a b:Nat):((a:Int) == 0 || (b:Int) == 0) = decide (a = 0 ∨ b = 0):=by
 rw [Bool.eq_iff_iff]; simp
theorem big_or (a b g:Nat):(decide (12 < (a:Int) + b) || decide (32 < (g:Int))) = decide (12 < a + b ∨ 32 < g):=by
 rw [Bool.eq_iff_iff]; simp; omega
def headE (t:Tree):Int:=firstErr [whenI ((t.basics.length:Int) == 0 || (t.gates.length:Int) == 0) 12,whenI (decide (12 < (t.basics.length:Int) + t.causes.length) || decide (32 < (t.gates.length:Int))) 5]
theorem err_head {t:Tree} (h:headE t ≠ 0):t.err = headE t:=by
 unfold headE whenI at *
 rw [zero_or,big_or] at *
 unfold Tree.err Tree.size
 by_cases h1:t.basics.length = 0 ∨ t.gates.length = 0
 · rw [if_pos h1,decide_eq_true h1]; rfl
 · rw [decide_eq_false h1] at h ⊢
   rw [if_neg h1]
   by_cases h2:12 < t.basics.length + t.causes.length ∨ 32 < t.gates.length
   · rw [if_pos h2,decide_eq_true h2]; rfl
   · rw [decide_eq_false h2] at h
     simp [firstErr] at h
theorem err_body {t:Tree} (h:headE t = 0):t.err = firstErr ((List.range t.size).map t.eventErr ++ (List.range t.gates.length).map t.gateErrAt) ∧ t.size ≤ 12 ∧ t.gates.length ≤ 32:=by
 unfold headE whenI at h
 rw [zero_or,big_or] at h
 unfold Tree.err
 by_cases h1:t.basics.length = 0 ∨ t.gates.length = 0
 · rw [decide_eq_true h1] at h; simp [firstErr] at h
 · rw [decide_eq_false h1] at h
   by_cases h2:12 < t.size ∨ 32 < t.gates.length
   · unfold Tree.size at h2
     rw [decide_eq_true h2] at h; simp [firstErr] at h
   · rw [if_neg h1,if_neg h2]; exact ⟨rfl,by omega,by omega⟩
end Go.Proofs
