/- Contract: CheckTree. -/
import Derived.Test.YtmaejccjimkbiaaGreatDoorFx13
set_option linter.unusedVariables false
set_option linter.unusedSimpArgs false
set_option linter.constructorNameAsVariable false
namespace Go.Proofs
open Go.RowKit Go.Tw Go.Flow
def Kn (t:Tree) (b B:Nat) (W wr:World) (k:Nat):Prop:=∃ L,Q3m wr b L ∧ Knows L (known t k) ∧ wr.cell? ⟨B,0,none⟩ = some (.map (some b)) ∧ Below b W wr
set_option maxRecDepth 100000 in
set_option maxHeartbeats 4000000 in
theorem Q2j (w:World) (v:Value) (t:Tree) (ht:IsTree w v t) :
    Calls Tryz.prog 66 #[v] w fun e w'=>e = .returned (.int .i64 t.err) ∧ Ext w w':=by
 have hmm:=@run_makeMap Tryz.prog;obtain ⟨a,bb0,d,rfl,h3⟩:=ht;obtain ⟨A,capa,rfl,hl1,hcap1,hc1⟩:=h3.basics.opened;obtain ⟨Bs,capb,rfl,hl2,hcap2,hc2⟩:=h3.causes.opened;obtain ⟨G,capg,rfl,hl3,hcap3,hc3⟩:=h3.gates.opened;have HC1:=Lib.hid hc1;have HC2:=Lib.hid hc2;have HC3:=Lib.hid hc3;have k0:=Blk.made w 37 #[.slice A t.basics.length capa,.slice Bs t.causes.length capb,.slice G t.gates.length capg];have hx0:=Ext.box w (.cells #[.slice A t.basics.length capa,.slice Bs t.causes.length capb,.slice G t.gates.length capg] 37);have hws:IntKind.i64.wrap ((t.basics.length:Int) + (t.causes.length:Int)) = (t.basics.length:Int) + (t.causes.length:Int):=Q6d _ (by omega) (by omega)
 obtain ⟨p1,hp1⟩:∃ p1,((t.basics.length:Int) == 0) = p1:=⟨_,rfl⟩;obtain ⟨s1,hs1⟩:∃ s1,((t.gates.length:Int) == 0) = s1:=⟨_,rfl⟩;obtain ⟨p2,hp2⟩:∃ p2,decide (12 < (t.basics.length:Int) + t.causes.length) = p2:=⟨_,rfl⟩;obtain ⟨s2,hs2⟩:∃ s2,decide (32 < (t.gates.length:Int)) = s2:=⟨_,rfl⟩;obtain ⟨E,hE⟩:∃ E,Q0h [Q0k (p1 || s1) 12,Q0k (p2 || s2) 5] = E:=⟨_,rfl⟩
 have HE:Hid (∀ (w':World) (u:Value),Q0f w' u [Q0k (p1 || s1) 12,Q0k (p2 || s2) 5] → Calls Tryz.prog 74 #[u] w' fun e w''=>e = .returned (.int .i64 E) ∧ w' = w''):=by
  exact (by intro w' u h; rw [← hE]; exact first_any _ _ _ h:∀ (w':World) (u:Value),Q0f w' u [Q0k (p1 || s1) 12,Q0k (p2 || s2) 5] → Calls Tryz.prog 74 #[u] w' fun e w''=>e = .returned (.int .i64 E) ∧ w' = w'')
 have hfin:Y2x t = E:=by unfold Y2x; rw [hp1,hs1,hp2,hs2]; exact hE
 have HFIN:=Lib.hid hfin;clear h3 hc1 hc2 hc3 hE hfin;go_enter Tryz.func66,Tryz.ntmps66;go_wp2;obtain ⟨W,hW⟩:∃ W,w.alloc (.cells #[.slice A t.basics.length capa,.slice Bs t.causes.length capb,.slice G t.gates.length capg] 37) = W:=⟨_,rfl⟩;have hws2:W.heap.size = w.heap.size + 1:=by rw [← hW]; simp
 rw [hW] at k0 hx0 ⊢;have K0:=Lib.hid k0;clear hW k0;refine Flow.Q7w [.plain,.world,.plain,.plain,.plain,.plain,.world,.plain,.plain,.plain,.world,.plain,.world,.plain,.plain,.world,.plain,.plain,.plain,.plain,.plain,.world,.plain,.plain,.plain,.world,.world,.world,.plain] [0,1,2,3,4,5,6,7,8,9,10,11,12,13,14,15,16,17,18,19,20,21,22,23,24,25,26,27,28] [[],[0],[1],[2],[3],[4],[4,5],[4,6],[4,7],[4,8],[4,9],[],[11],[12],[],[14],[15],[13,16],[17],[10,18],[19],[19,20],[19,21],[19,22],[19,23],[19,24],[10,25],[25,26],[0,1,2,3,4,5,6,7,8,9,10,11,12,13,14,15,16,17,18,19,20,21,22,23,24,25,26,27]]
  [.is 0 (fun v=>.pointer (some ⟨w.heap.size,0,none⟩)),.is 1 (fun v=>.slice A t.basics.length capa),.is 2 (fun v=>.int .i64 ((t.basics.length:Nat):Int)),.is 3 (fun v=>.bool p1),.is 4 (fun v=>.bool p1),.is 5 (fun v=>Q2y p1 (.pointer (some ⟨w.heap.size,2,none⟩))),.is 6 (fun v=>Q2y p1 (.slice G t.gates.length capg)),.is 7 (fun v=>Q2y p1 (.int .i64 ((t.gates.length:Nat):Int))),.is 8 (fun v=>Q2y p1 (.bool s1)),.is 9 (fun v=>.bool (p1 || s1)),.is 10 (fun v=>.int .i64 (Q0k (p1 || s1) 12)),.is 11 (fun v=>.pointer (some ⟨w.heap.size,0,none⟩)),.is 12 (fun v=>.slice A t.basics.length capa),.is 13 (fun v=>.int .i64 ((t.basics.length:Nat):Int)),.is 14 (fun v=>.pointer (some ⟨w.heap.size,1,none⟩)),.is 15 (fun v=>.slice Bs t.causes.length capb),.is 16 (fun v=>.int .i64 ((t.causes.length:Nat):Int)),.is 17 (fun v=>.int .i64 ((t.basics.length:Int) + (t.causes.length:Int))),.is 18 (fun v=>.bool p2),.is 19 (fun v=>.bool p2),.is 20 (fun v=>Q2y p2 (.pointer (some ⟨w.heap.size,2,none⟩))),.is 21 (fun v=>Q2y p2 (.slice G t.gates.length capg)),.is 22 (fun v=>Q2y p2 (.int .i64 ((t.gates.length:Nat):Int))),.is 23 (fun v=>Q2y p2 (.bool s2)),.is 24 (fun v=>.bool (p2 || s2)),.is 25 (fun v=>.int .i64 (Q0k (p2 || s2) 5)),⟨fun v wz=>Q0f wz (v 26) [Q0k (p1 || s1) 12,Q0k (p2 || s2) 5],fun _ _ _ hx h=>h.ext hx⟩,.is 27 (fun v=>.int .i64 E),.is 28 (fun v=>.int .i64 E)]
  (by kernel_rfl) rfl (by kernel_rfl) ⟨?g0,?g1,?g2,?g3,?g4,?g5,?g6,?g7,?g8,?g9,?g10,?g11,?g12,?g13,?g14,?g15,?g16,?g17,?g18,?g19,?g20,?g21,?g22,?g23,?g24,?g25,?g26,?g27,?g28,trivial⟩ ?post
 case g0 =>
  intro v w1 hx;refine ⟨_,fun w=>?_,rfl⟩;go_simp
 case g1 =>
  intro v w1 hx (q0:v 0 = .pointer (some ⟨w.heap.size,0,none⟩));have n0:w1.cell? ⟨w.heap.size,0,none⟩ = some (.slice A t.basics.length capa):=(K0.out.ext ((Ext.refl W).drew.trans hx)).cell 0;intro K hK;go_simp;exact hK _ _ (Ext.refl _) rfl
 case g2 =>
  intro v w1 hx (q1:v 1 = .slice A t.basics.length capa);refine ⟨_,fun w=>?_,rfl⟩;go_simp
 case g3 =>
  intro v w1 hx (q2:v 2 = .int .i64 ((t.basics.length:Nat):Int));refine ⟨_,fun w=>?_,rfl⟩;go_simp
 case g4 =>
  intro v w1 hx (q3:v 3 = .bool p1);refine ⟨_,fun w=>?_,rfl⟩;go_simp
 case g5 =>
  intro v w1 hx (q4:v 4 = .bool p1);cases p1 with
  | true=>exact .inr ⟨by go_simp,rfl⟩
  | false =>
    refine .inl ⟨by go_simp,?_⟩
    refine ⟨_,fun w=>?_,rfl⟩;go_simp
 case g6 =>
  intro v w1 hx (q4:v 4 = .bool p1) (q5:v 5 = Q2y p1 (.pointer (some ⟨w.heap.size,2,none⟩)));have n0:w1.cell? ⟨w.heap.size,2,none⟩ = some (.slice G t.gates.length capg):=(K0.out.ext ((Ext.refl W).drew.trans hx)).cell 2;cases p1 with
  | true=>exact .inr ⟨by go_simp,rfl⟩
  | false =>
    replace q5:v 5 = .pointer (some ⟨w.heap.size,2,none⟩):=q5;refine .inl ⟨by go_simp,?_⟩
    intro K hK;go_simp;exact hK _ _ (Ext.refl _) rfl
 case g7 =>
  intro v w1 hx (q4:v 4 = .bool p1) (q6:v 6 = Q2y p1 (.slice G t.gates.length capg));cases p1 with
  | true=>exact .inr ⟨by go_simp,rfl⟩
  | false =>
    replace q6:v 6 = .slice G t.gates.length capg:=q6;refine .inl ⟨by go_simp,?_⟩
    refine ⟨_,fun w=>?_,rfl⟩;go_simp
 case g8 =>
  intro v w1 hx (q4:v 4 = .bool p1) (q7:v 7 = Q2y p1 (.int .i64 ((t.gates.length:Nat):Int)));cases p1 with
  | true=>exact .inr ⟨by go_simp,rfl⟩
  | false =>
    replace q7:v 7 = .int .i64 ((t.gates.length:Nat):Int):=q7;refine .inl ⟨by go_simp,?_⟩
    refine ⟨_,fun w=>?_,rfl⟩;go_simp
 case g9 =>
  intro v w1 hx (q4:v 4 = .bool p1) (q8:v 8 = Q2y p1 (.bool s1));refine ⟨.bool (p1 || s1),fun w=>?_,rfl⟩
  cases p1 with
  | true=>go_simp
  | false=>go_simp; rfl
 case g10 =>
  intro v w1 hx (q4:v 4 = .bool p1) (q9:v 9 = .bool (p1 || s1));intro K hK;go_simp;refine Q0e (Q3n _ _ _) ?_;rintro e w2 ⟨rfl,rfl⟩;exact ⟨_,rfl,hK _ _ (Ext.refl _) rfl⟩
 case g11 =>
  intro v w1 hx;refine ⟨_,fun w=>?_,rfl⟩;go_simp
 case g12 =>
  intro v w1 hx (q11:v 11 = .pointer (some ⟨w.heap.size,0,none⟩));have n0:w1.cell? ⟨w.heap.size,0,none⟩ = some (.slice A t.basics.length capa):=(K0.out.ext ((Ext.refl W).drew.trans hx)).cell 0;intro K hK;go_simp;exact hK _ _ (Ext.refl _) rfl
 case g13 =>
  intro v w1 hx (q12:v 12 = .slice A t.basics.length capa);refine ⟨_,fun w=>?_,rfl⟩;go_simp
 case g14 =>
  intro v w1 hx;refine ⟨_,fun w=>?_,rfl⟩;go_simp
 case g15 =>
  intro v w1 hx (q14:v 14 = .pointer (some ⟨w.heap.size,1,none⟩));have n0:w1.cell? ⟨w.heap.size,1,none⟩ = some (.slice Bs t.causes.length capb):=(K0.out.ext ((Ext.refl W).drew.trans hx)).cell 1;intro K hK;go_simp;exact hK _ _ (Ext.refl _) rfl
 case g16 =>
  intro v w1 hx (q15:v 15 = .slice Bs t.causes.length capb);refine ⟨_,fun w=>?_,rfl⟩;go_simp
 case g17 =>
  intro v w1 hx (q13:v 13 = .int .i64 ((t.basics.length:Nat):Int)) (q16:v 16 = .int .i64 ((t.causes.length:Nat):Int));refine ⟨_,fun w=>?_,rfl⟩;go_simp
 case g18 =>
  intro v w1 hx (q17:v 17 = .int .i64 ((t.basics.length:Int) + (t.causes.length:Int)));refine ⟨_,fun w=>?_,rfl⟩;go_simp
 case g19 =>
  intro v w1 hx (q10:v 10 = .int .i64 (Q0k (p1 || s1) 12)) (q18:v 18 = .bool p2);refine ⟨_,fun w=>?_,rfl⟩;go_simp
 case g20 =>
  intro v w1 hx (q19:v 19 = .bool p2);cases p2 with
  | true=>exact .inr ⟨by go_simp,rfl⟩
  | false =>
    refine .inl ⟨by go_simp,?_⟩
    refine ⟨_,fun w=>?_,rfl⟩;go_simp
 case g21 =>
  intro v w1 hx (q19:v 19 = .bool p2) (q20:v 20 = Q2y p2 (.pointer (some ⟨w.heap.size,2,none⟩)));have n0:w1.cell? ⟨w.heap.size,2,none⟩ = some (.slice G t.gates.length capg):=(K0.out.ext ((Ext.refl W).drew.trans hx)).cell 2;cases p2 with
  | true=>exact .inr ⟨by go_simp,rfl⟩
  | false =>
    replace q20:v 20 = .pointer (some ⟨w.heap.size,2,none⟩):=q20;refine .inl ⟨by go_simp,?_⟩
    intro K hK;go_simp;exact hK _ _ (Ext.refl _) rfl
 case g22 =>
  intro v w1 hx (q19:v 19 = .bool p2) (q21:v 21 = Q2y p2 (.slice G t.gates.length capg));cases p2 with
  | true=>exact .inr ⟨by go_simp,rfl⟩
  | false =>
    replace q21:v 21 = .slice G t.gates.length capg:=q21;refine .inl ⟨by go_simp,?_⟩
    refine ⟨_,fun w=>?_,rfl⟩;go_simp
 case g23 =>
  intro v w1 hx (q19:v 19 = .bool p2) (q22:v 22 = Q2y p2 (.int .i64 ((t.gates.length:Nat):Int)));cases p2 with
  | true=>exact .inr ⟨by go_simp,rfl⟩
  | false =>
    replace q22:v 22 = .int .i64 ((t.gates.length:Nat):Int):=q22;refine .inl ⟨by go_simp,?_⟩
    refine ⟨_,fun w=>?_,rfl⟩;go_simp
 case g24 =>
  intro v w1 hx (q19:v 19 = .bool p2) (q23:v 23 = Q2y p2 (.bool s2));refine ⟨.bool (p2 || s2),fun w=>?_,rfl⟩
  cases p2 with
  | true=>go_simp
  | false=>go_simp; rfl
 case g25 =>
  intro v w1 hx (q19:v 19 = .bool p2) (q24:v 24 = .bool (p2 || s2));intro K hK;go_simp;refine Q0e (Q3n _ _ _) ?_;rintro e w2 ⟨rfl,rfl⟩;exact ⟨_,rfl,hK _ _ (Ext.refl _) rfl⟩
 case g26 =>
  intro v w1 hx (q10:v 10 = .int .i64 (Q0k (p1 || s1) 12)) (q25:v 25 = .int .i64 (Q0k (p2 || s2) 5));intro K hK;go_simp;exact hK _ _ (Ext.box _ _) (Q2m (l:=[Q0k (p1 || s1) 12,Q0k (p2 || s2) 5]) (by simp))
 case g27 =>
  intro v w1 hx (q25:v 25 = .int .i64 (Q0k (p2 || s2) 5)) (q26:Q0f w1 (v 26) [Q0k (p1 || s1) 12,Q0k (p2 || s2) 5]);intro K hK;go_simp;refine Q0e (HE.out _ _ q26) ?_;rintro e w2 ⟨rfl,rfl⟩;exact ⟨_,rfl,hK _ _ (Ext.refl _) rfl⟩
 case g28 =>
  intro v w1 hx (q0:v 0 = .pointer (some ⟨w.heap.size,0,none⟩)) (q1:v 1 = .slice A t.basics.length capa) (q2:v 2 = .int .i64 ((t.basics.length:Nat):Int)) (q3:v 3 = .bool p1) (q4:v 4 = .bool p1) (q5:v 5 = Q2y p1 (.pointer (some ⟨w.heap.size,2,none⟩))) (q6:v 6 = Q2y p1 (.slice G t.gates.length capg)) (q7:v 7 = Q2y p1 (.int .i64 ((t.gates.length:Nat):Int))) (q8:v 8 = Q2y p1 (.bool s1)) (q9:v 9 = .bool (p1 || s1)) (q10:v 10 = .int .i64 (Q0k (p1 || s1) 12)) (q11:v 11 = .pointer (some ⟨w.heap.size,0,none⟩)) (q12:v 12 = .slice A t.basics.length capa) (q13:v 13 = .int .i64 ((t.basics.length:Nat):Int)) (q14:v 14 = .pointer (some ⟨w.heap.size,1,none⟩)) (q15:v 15 = .slice Bs t.causes.length capb) (q16:v 16 = .int .i64 ((t.causes.length:Nat):Int)) (q17:v 17 = .int .i64 ((t.basics.length:Int) + (t.causes.length:Int))) (q18:v 18 = .bool p2) (q19:v 19 = .bool p2) (q20:v 20 = Q2y p2 (.pointer (some ⟨w.heap.size,2,none⟩))) (q21:v 21 = Q2y p2 (.slice G t.gates.length capg)) (q22:v 22 = Q2y p2 (.int .i64 ((t.gates.length:Nat):Int))) (q23:v 23 = Q2y p2 (.bool s2)) (q24:v 24 = .bool (p2 || s2)) (q25:v 25 = .int .i64 (Q0k (p2 || s2) 5)) (q26:Q0f w1 (v 26) [Q0k (p1 || s1) 12,Q0k (p2 || s2) 5]) (q27:v 27 = .int .i64 E);refine ⟨_,fun w=>?_,rfl⟩;go_simp
 case post =>
  intro v w1 hx (q0:v 0 = .pointer (some ⟨w.heap.size,0,none⟩)) (q1:v 1 = .slice A t.basics.length capa) (q2:v 2 = .int .i64 ((t.basics.length:Nat):Int)) (q3:v 3 = .bool p1) (q4:v 4 = .bool p1) (q5:v 5 = Q2y p1 (.pointer (some ⟨w.heap.size,2,none⟩))) (q6:v 6 = Q2y p1 (.slice G t.gates.length capg)) (q7:v 7 = Q2y p1 (.int .i64 ((t.gates.length:Nat):Int))) (q8:v 8 = Q2y p1 (.bool s1)) (q9:v 9 = .bool (p1 || s1)) (q10:v 10 = .int .i64 (Q0k (p1 || s1) 12)) (q11:v 11 = .pointer (some ⟨w.heap.size,0,none⟩)) (q12:v 12 = .slice A t.basics.length capa) (q13:v 13 = .int .i64 ((t.basics.length:Nat):Int)) (q14:v 14 = .pointer (some ⟨w.heap.size,1,none⟩)) (q15:v 15 = .slice Bs t.causes.length capb) (q16:v 16 = .int .i64 ((t.causes.length:Nat):Int)) (q17:v 17 = .int .i64 ((t.basics.length:Int) + (t.causes.length:Int))) (q18:v 18 = .bool p2) (q19:v 19 = .bool p2) (q20:v 20 = Q2y p2 (.pointer (some ⟨w.heap.size,2,none⟩))) (q21:v 21 = Q2y p2 (.slice G t.gates.length capg)) (q22:v 22 = Q2y p2 (.int .i64 ((t.gates.length:Nat):Int))) (q23:v 23 = Q2y p2 (.bool s2)) (q24:v 24 = .bool (p2 || s2)) (q25:v 25 = .int .i64 (Q0k (p2 || s2) 5)) (q26:Q0f w1 (v 26) [Q0k (p1 || s1) 12,Q0k (p2 || s2) 5]) (q27:v 27 = .int .i64 E) (q28:v 28 = .int .i64 E);simp only [Flow.All,Flow.acts,Act.put];go_simp;have hxr:=(Ext.refl W).drew.trans hx;have hx0r:=hx0.trans hxr;clear HE hws hp1 hs1 hp2 hs2
  by_cases hE0:E = 0
  · have hne:(E != 0) = false:=by simp [hE0]
    have HBODY:=Lib.hid (Z1d (t:=t) (by rw [HFIN.out]; exact hE0))
    clear hE0;have hb0:=Ext.box w1 (.map #[] 0);have hb1:=Ext.box (w1.alloc (.map #[] 0)) (.cells #[.map (some w1.heap.size)] 173);have m0:=(Q3m.made w1).ext hb1;have hcB:((w1.alloc (.map #[] 0)).alloc (.cells #[.map (some w1.heap.size)] 173)).cell? ⟨w1.heap.size + 1,0,none⟩ = some (.map (some w1.heap.size)):=by
     have h:=Q0z (w1.alloc (.map #[] 0)) #[.map (some w1.heap.size)] 173 0;have e:(w1.alloc (.map #[] 0)).heap.size = w1.heap.size + 1:=by simp
     rw [e] at h; exact h
    have hsz:=hxr.size;have hws3:w.heap.size + 1 ≤ w1.heap.size:=by omega
    have KW:=(K0.out.ext hxr).ext (hb0.trans hb1);have n0:=KW.cell 0;simp only [List.getElem?_toArray,List.getElem?_cons_zero] at n0;go_wp2;obtain ⟨V,hV⟩:∃ V,(w1.alloc (.map #[] 0)).alloc (.cells #[.map (some w1.heap.size)] 173) = V:=⟨_,rfl⟩;have hVs:V.heap.size = w1.heap.size + 1 + 1:=by rw [← hV]; simp
    have hxV:Ext w V:=hx0r.trans (by rw [← hV]; exact hb0.trans hb1)
    rw [hV] at m0 hcB KW ⊢;obtain ⟨b,hb⟩:∃ b,w1.heap.size = b:=⟨_,rfl⟩;obtain ⟨B,hB⟩:∃ B,b + 1 = B:=⟨_,rfl⟩;rw [hb] at m0 hcB hws3 hVs;rw [hB] at hcB hVs;rw [hb,hB];have HKW:=Lib.hid KW;have HXV:=Lib.hid hxV;have HK0:Hid (Kn t b B V V 0):=by exact ⟨[],m0,Knows.nil,hcB,Below.refl _ _⟩
    clear hb0 hb1 m0 hcB hV hb KW hxV n0 hx hxr hx0r hx0 hsz
    go_loopw [51] (fun i wr=>∃ (k:Nat),k ≤ t.basics.length ∧ i = .int .i64 k ∧ (∀ j,j < k → t.Q0u j = 0) ∧ Kn t b B V wr k) (fun i _=>t.basics.length - (intOf i).toNat)
    case atStart=>exact ⟨0,Nat.zero_le _,rfl,fun j hj=>by omega,HK0.out⟩
    case round =>
     obtain ⟨k,hk,rfl,hz,L,hm,hkn,hcB,hbel⟩:=hrel
     by_cases hlt:k < t.basics.length
     · obtain ⟨b1,off,rfl,hb1,e0,e1,hsh⟩:=HC1.out k hlt
       replace e0:=(hbel.cell (p:=⟨b1,off + k * 2,none⟩) (by show b1 < b; omega)).trans (HXV.out.cell e0)
       replace e1:=(hbel.cell (p:=⟨b1,off + k * 2 + 1,none⟩) (by show b1 < b; omega)).trans (HXV.out.cell e1)
       have HZ:=Lib.hid hz;have HM:=Lib.hid hm;have HKN:=Lib.hid hkn;have HBEL:=Lib.hid hbel;have HEQ:=Lib.hid (Y7w t hlt);have hnm:t.nameAt k = bName t.basics k:=by unfold Tree.nameAt; rw [if_pos hlt]
       have HNM:=Lib.hid hnm;have hx2:=Ext.box wr (.cells #[.string (bName t.basics k),.int .i64 (Q1l t.basics k)] 125);have HX2:=Lib.hid hx2;have hbw:=hm.lt;have HCB:=Lib.hid hcB;clear hz hm hkn hbel hnm hx2 hcB;go_wp2_with fail;refine (X6o _ _ _ B b L (known t k) hsh (HX2.out.cell HCB.out) (HM.out.ext HX2.out) HKN.out).mono ?_;rintro e w3 ⟨rfl,hm3,hB3,hb3,hs3⟩;rw [HEQ.out];have hbel3:Below b V w3:=Below.trans (Below.trans HBEL.out (HX2.out.below (by omega))) (hb3 b (Nat.le_refl _))
       by_cases he:t.Q0u k = 0
       · have hne2:(t.Q0u k != 0) = false:=by simp [he]
         have HE0:=Lib.hid he;have HM3:=Lib.hid hm3;clear he hm3;go_wp2;go_roundw
         case rel=>exact ⟨k + 1,by omega,by go_num,fun j hj=>by rcases Nat.lt_or_ge j k with h | h; exact HZ.out j h; rw [show j = k from by omega]; exact HE0.out,_,HM3.out,by rw [X6t,HNM.out]; exact HKN.out.put _,hB3,hbel3⟩
         case measure=>simp [intOf]; omega
       · have hne2:(t.Q0u k != 0) = true:=by simp [he]
         have HE0:=Lib.hid he;clear he;go_wp2;go_ret;exact ⟨Q1f (by rw [HBODY.out.1]; exact (Q7m (by unfold Tree.size; omega) HZ.out HE0.out).symm),Below.trans HXV.out (Below.mono hbel3 (by omega))⟩
     · have hkn0:k = t.basics.length:=by omega
       subst hkn0;have n1:=(HKW.out.below hbel (by omega)).cell 1
       have HK1:Hid (Kn t b B V wr (t.basics.length + 0)):=by exact ⟨L,hm,hkn,hcB,hbel⟩
       have HZ1:=Lib.hid hz;clear hm hkn hcB hbel hz HK0;go_wp2
       go_loopw [68] (fun i wr=>∃ (j:Nat),j ≤ t.causes.length ∧ i = .int .i64 j ∧ (∀ i,i < t.basics.length + j → t.Q0u i = 0) ∧ Kn t b B V wr (t.basics.length + j)) (fun i _=>t.causes.length - (intOf i).toNat)
       case atStart=>exact ⟨0,Nat.zero_le _,rfl,HZ1.out,HK1.out⟩
       case round =>
        clear HK1 HZ1 n1;obtain ⟨j,hj,rfl,hz,L,hm,hkn,hcB,hbel⟩:=hrel
        by_cases hlj:j < t.causes.length
        · obtain ⟨b1,off,m,rfl,hb1,e0,e1,e2,hM,hsh⟩:=HC2.out j hlj
          replace e0:=(hbel.cell (p:=⟨b1,off + j * 3,none⟩) (by show b1 < b; omega)).trans (HXV.out.cell e0)
          replace e1:=(hbel.cell (p:=⟨b1,off + j * 3 + 1,none⟩) (by show b1 < b; omega)).trans (HXV.out.cell e1)
          replace e2:=(hbel.cell (p:=⟨b1,off + j * 3 + 2,none⟩) (by show b1 < b; omega)).trans (HXV.out.cell e2)
          obtain ⟨A3,cap3,rfl,_,_,_⟩:=hM.opened;have HMM:=Lib.hid hM;have HZ:=Lib.hid hz;have HM:=Lib.hid hm;have HKN:=Lib.hid hkn;have HBEL:=Lib.hid hbel;have HEQ:=Lib.hid (Y6y t j);have hnm:t.nameAt (t.basics.length + j) = cName t.causes j:=by unfold Tree.nameAt; rw [if_neg (by omega),Nat.add_sub_cancel_left]
          have HNM:=Lib.hid hnm;have hx2:=Ext.box wr (.cells #[.string (cName t.causes j),.int .i64 (Q1d t.causes j),.slice A3 (Q0c t.causes j).length cap3] 126);have f2:(wr.alloc (.cells #[.string (cName t.causes j),.int .i64 (Q1d t.causes j),.slice A3 (Q0c t.causes j).length cap3] 126)).cell? ⟨wr.heap.size,2,none⟩ = some (.slice A3 (Q0c t.causes j).length cap3):=Q0z _ _ _ 2;have HX2:=Lib.hid hx2;have HF2:=Lib.hid f2;have hbw:=hm.lt;have HCB:=Lib.hid hcB;clear hz hm hkn hbel hnm hx2 hcB hM f2
          go_light
          go_wp2_with fail;refine (X6o _ _ _ B b L (known t (t.basics.length + j)) hsh (HX2.out.cell HCB.out) (HM.out.ext HX2.out) HKN.out).mono ?_;rintro e w3 ⟨rfl,hm3,hB3,hb3,hs3⟩;have hbel3:Below b V w3:=Below.trans (Below.trans HBEL.out (HX2.out.below (by omega))) (hb3 b (Nat.le_refl _))
          have hxw3:Ext w w3:=Below.trans HXV.out (Below.mono hbel3 (by omega))
          have g2:w3.cell? ⟨wr.heap.size,2,none⟩ = some (.slice A3 (Q0c t.causes j).length cap3):=(X0b hs3 (by simp) (by intro h; injection h with h; omega)).trans HF2.out
          have n0:w3.cell? ⟨w.heap.size,0,none⟩ = some (.slice A t.basics.length capa):=(HKW.out.below hbel3 (by omega)).cell 0
          obtain ⟨E1,hE1⟩:∃ E1,checkN (cName t.causes j) (Q1d t.causes j) (known t (t.basics.length + j) (cName t.causes j)) = E1:=⟨_,rfl⟩;rw [hE1];have hE2:Q0h [E1,Q0k (((Q0c t.causes j).length:Int) == 0) 12,Q1h (Q0c t.causes j) t.basics.length] = t.Q0u (t.basics.length + j):=by rw [← HEQ.out,hE1]; rfl
          have HE:Hid (∀ (w':World) (u:Value),Q0f w' u [E1,Q0k (((Q0c t.causes j).length:Int) == 0) 12,Q1h (Q0c t.causes j) t.basics.length] → Calls Tryz.prog 74 #[u] w' fun e w''=>e = .returned (.int .i64 (t.Q0u (t.basics.length + j))) ∧ w' = w''):=by
           exact (by intro w' u h; rw [← hE2]; exact first_any _ _ _ h:∀ (w':World) (u:Value),Q0f w' u [E1,Q0k (((Q0c t.causes j).length:Int) == 0) 12,Q1h (Q0c t.causes j) t.basics.length] → Calls Tryz.prog 74 #[u] w' fun e w''=>e = .returned (.int .i64 (t.Q0u (t.basics.length + j))) ∧ w' = w'')
          have HM3:=Lib.hid hm3;have HB3:=Lib.hid hB3;have HG:=Lib.hid g2;have HN0:=Lib.hid n0;have HX3:=Lib.hid hxw3;have HBE3:=Lib.hid hbel3;have hwrb:b < w3.heap.size:=hm3.lt;have hd3:=(Ext.refl w3).drew;clear hm3 hB3 hb3 hs3 hE1 hE2 g2 n0 hxw3 hbel3 e0 e1 e2 HEQ HF2 HM;go_wp2;refine Flow.Q7w [.plain,.plain,.world,.plain,.plain,.world,.plain,.world,.plain,.world,.plain,.world,.world,.world,.plain] [0,1,2,3,4,5,6,7,8,9,10,11,12,13,14] [[],[],[1],[2],[3],[4],[],[6],[],[8],[9],[5,7,10],[0,5,11],[11,12],[0,1,2,3,4,5,6,7,8,9,10,11,12,13]]
           [.is 0 (fun v=>.int .i64 E1),.is 1 (fun v=>.pointer (some ⟨wr.heap.size,2,none⟩)),.is 2 (fun v=>.slice A3 (Q0c t.causes j).length cap3),.is 3 (fun v=>.int .i64 ((Q0c t.causes j).length:Int)),.is 4 (fun v=>.bool (((Q0c t.causes j).length:Int) == 0)),.is 5 (fun v=>.int .i64 (Q0k (((Q0c t.causes j).length:Int) == 0) 12)),.is 6 (fun v=>.pointer (some ⟨wr.heap.size,2,none⟩)),.is 7 (fun v=>.slice A3 (Q0c t.causes j).length cap3),.is 8 (fun v=>.pointer (some ⟨w.heap.size,0,none⟩)),.is 9 (fun v=>.slice A t.basics.length capa),.is 10 (fun v=>.int .i64 ((t.basics.length:Nat):Int)),.is 11 (fun v=>.int .i64 (Q1h (Q0c t.causes j) t.basics.length)),⟨fun v wz=>Q0f wz (v 12) [E1,Q0k (((Q0c t.causes j).length:Int) == 0) 12,Q1h (Q0c t.causes j) t.basics.length],fun _ _ _ hx h=>h.ext hx⟩,.is 13 (fun v=>.int .i64 (t.Q0u (t.basics.length + j))),.is 14 (fun v=>.int .i64 (t.Q0u (t.basics.length + j)))]
           (by kernel_rfl) rfl (by kernel_rfl) ⟨?g0,?g1,?g2,?g3,?g4,?g5,?g6,?g7,?g8,?g9,?g10,?g11,?g12,?g13,?g14,trivial⟩ ?post
          case g0 =>
           intro v w1 hx;refine ⟨_,fun w=>?_,rfl⟩;go_simp
          case g1 =>
           intro v w1 hx;refine ⟨_,fun w=>?_,rfl⟩;go_simp
          case g2 =>
           intro v w1 hx (q1:v 1 = .pointer (some ⟨wr.heap.size,2,none⟩));have n0:=(hd3.trans hx).cell HG.out;intro K hK;go_simp;exact hK _ _ (Ext.refl _) rfl
          case g3 =>
           intro v w1 hx (q2:v 2 = .slice A3 (Q0c t.causes j).length cap3);refine ⟨_,fun w=>?_,rfl⟩;go_simp
          case g4 =>
           intro v w1 hx (q3:v 3 = .int .i64 ((Q0c t.causes j).length:Int));refine ⟨_,fun w=>?_,rfl⟩;go_simp
          case g5 =>
           intro v w1 hx (q4:v 4 = .bool (((Q0c t.causes j).length:Int) == 0));intro K hK;go_simp;refine Q0e (Q3n _ _ _) ?_;rintro e w2 ⟨rfl,rfl⟩;exact ⟨_,rfl,hK _ _ (Ext.refl _) rfl⟩
          case g6 =>
           intro v w1 hx;refine ⟨_,fun w=>?_,rfl⟩;go_simp
          case g7 =>
           intro v w1 hx (q6:v 6 = .pointer (some ⟨wr.heap.size,2,none⟩));have n0:=(hd3.trans hx).cell HG.out;intro K hK;go_simp;exact hK _ _ (Ext.refl _) rfl
          case g8 =>
           intro v w1 hx;refine ⟨_,fun w=>?_,rfl⟩;go_simp
          case g9 =>
           intro v w1 hx (q8:v 8 = .pointer (some ⟨w.heap.size,0,none⟩));have n0:=(hd3.trans hx).cell HN0.out;intro K hK;go_simp;exact hK _ _ (Ext.refl _) rfl
          case g10 =>
           intro v w1 hx (q9:v 9 = .slice A t.basics.length capa);refine ⟨_,fun w=>?_,rfl⟩;go_simp
          case g11 =>
           intro v w1 hx (q5:v 5 = .int .i64 (Q0k (((Q0c t.causes j).length:Int) == 0) 12)) (q7:v 7 = .slice A3 (Q0c t.causes j).length cap3) (q10:v 10 = .int .i64 ((t.basics.length:Nat):Int));intro K hK;go_simp;refine Q0e (Q5g _ _ (Q0c t.causes j) _ (HMM.out.ext (HX3.out.trans (hd3.trans hx)))) ?_;rintro e w2 ⟨rfl,hx2⟩;exact ⟨_,rfl,hK _ _ hx2 rfl⟩
          case g12 =>
           intro v w1 hx (q0:v 0 = .int .i64 E1) (q5:v 5 = .int .i64 (Q0k (((Q0c t.causes j).length:Int) == 0) 12)) (q11:v 11 = .int .i64 (Q1h (Q0c t.causes j) t.basics.length));intro K hK;go_simp;exact hK _ _ (Ext.box _ _) (Q2m (l:=[E1,Q0k (((Q0c t.causes j).length:Int) == 0) 12,Q1h (Q0c t.causes j) t.basics.length]) (by simp))
          case g13 =>
           intro v w1 hx (q11:v 11 = .int .i64 (Q1h (Q0c t.causes j) t.basics.length)) (q12:Q0f w1 (v 12) [E1,Q0k (((Q0c t.causes j).length:Int) == 0) 12,Q1h (Q0c t.causes j) t.basics.length]);intro K hK;go_simp;refine Q0e (HE.out _ _ q12) ?_;rintro e w2 ⟨rfl,rfl⟩;exact ⟨_,rfl,hK _ _ (Ext.refl _) rfl⟩
          case g14 =>
           intro v w1 hx (q0:v 0 = .int .i64 E1) (q1:v 1 = .pointer (some ⟨wr.heap.size,2,none⟩)) (q2:v 2 = .slice A3 (Q0c t.causes j).length cap3) (q3:v 3 = .int .i64 ((Q0c t.causes j).length:Int)) (q4:v 4 = .bool (((Q0c t.causes j).length:Int) == 0)) (q5:v 5 = .int .i64 (Q0k (((Q0c t.causes j).length:Int) == 0) 12)) (q6:v 6 = .pointer (some ⟨wr.heap.size,2,none⟩)) (q7:v 7 = .slice A3 (Q0c t.causes j).length cap3) (q8:v 8 = .pointer (some ⟨w.heap.size,0,none⟩)) (q9:v 9 = .slice A t.basics.length capa) (q10:v 10 = .int .i64 ((t.basics.length:Nat):Int)) (q11:v 11 = .int .i64 (Q1h (Q0c t.causes j) t.basics.length)) (q12:Q0f w1 (v 12) [E1,Q0k (((Q0c t.causes j).length:Int) == 0) 12,Q1h (Q0c t.causes j) t.basics.length]) (q13:v 13 = .int .i64 (t.Q0u (t.basics.length + j)));refine ⟨_,fun w=>?_,rfl⟩;go_simp
          case post =>
           intro v w1 hx (q0:v 0 = .int .i64 E1) (q1:v 1 = .pointer (some ⟨wr.heap.size,2,none⟩)) (q2:v 2 = .slice A3 (Q0c t.causes j).length cap3) (q3:v 3 = .int .i64 ((Q0c t.causes j).length:Int)) (q4:v 4 = .bool (((Q0c t.causes j).length:Int) == 0)) (q5:v 5 = .int .i64 (Q0k (((Q0c t.causes j).length:Int) == 0) 12)) (q6:v 6 = .pointer (some ⟨wr.heap.size,2,none⟩)) (q7:v 7 = .slice A3 (Q0c t.causes j).length cap3) (q8:v 8 = .pointer (some ⟨w.heap.size,0,none⟩)) (q9:v 9 = .slice A t.basics.length capa) (q10:v 10 = .int .i64 ((t.basics.length:Nat):Int)) (q11:v 11 = .int .i64 (Q1h (Q0c t.causes j) t.basics.length)) (q12:Q0f w1 (v 12) [E1,Q0k (((Q0c t.causes j).length:Int) == 0) 12,Q1h (Q0c t.causes j) t.basics.length]) (q13:v 13 = .int .i64 (t.Q0u (t.basics.length + j))) (q14:v 14 = .int .i64 (t.Q0u (t.basics.length + j)));simp only [Flow.All,Flow.acts,Act.put];go_simp;have hxx:=hd3.trans hx;have HXX:=Lib.hid hxx;have HX4:=Lib.hid (HX3.out.trans hxx);clear hxx hx HE
           by_cases he:t.Q0u (t.basics.length + j) = 0
           · have hne2:(t.Q0u (t.basics.length + j) != 0) = false:=by simp [he]
             have HE0:=Lib.hid he;clear he;go_wp2;go_roundw
             case rel=>exact ⟨j + 1,by omega,by go_num,fun i hi=>by rcases Nat.lt_or_ge i (t.basics.length + j) with h | h; exact HZ.out i h; rw [show i = t.basics.length + j from by omega]; exact HE0.out,_,HM3.out.ext HXX.out,by rw [show t.basics.length + (j + 1) = t.basics.length + j + 1 from rfl,X6t,HNM.out]; exact HKN.out.put _,HXX.out.cell HB3.out,Below.trans HBE3.out (HXX.out.below (by omega))⟩
             case measure=>simp [intOf]; omega
           · have hne2:(t.Q0u (t.basics.length + j) != 0) = true:=by simp [he]
             have HE0:=Lib.hid he;clear he;go_wp2;go_ret;exact ⟨Q1f (by rw [HBODY.out.1]; exact (Q7m (by unfold Tree.size; omega) HZ.out HE0.out).symm),HX4.out⟩
        · have HZ:Hid (∀ i,i < t.size → t.Q0u i = 0):=by exact (fun i hi=>hz i (by unfold Tree.size at hi; omega):∀ i,i < t.size → t.Q0u i = 0)
          have n2:=(HKW.out.below hbel (by omega)).cell 2
          simp only [List.getElem?_toArray,List.getElem?_cons_zero,List.getElem?_cons_succ] at n2;have HX3:Hid (Below b V wr):=hbel;have HFB:=Lib.hid (Q9y (r:=(List.range t.gates.length).map t.Q1u) HZ.out);have hbws:b < wr.heap.size:=hm.lt;clear hz hm hkn hcB hbel;go_wp2
          go_loopw [99] (fun i wr=>∃ (g:Nat),g ≤ t.gates.length ∧ i = .int .i64 g ∧ (∀ i,i < g → t.Q1u i = 0) ∧ Below b V wr ∧ b < wr.heap.size) (fun i _=>t.gates.length - (intOf i).toNat)
          case atStart=>exact ⟨0,Nat.zero_le _,rfl,fun i hi=>by omega,HX3.out,hbws⟩
          case round =>
           clear HX3 hbws n2;obtain ⟨g,hg,rfl,hz,hbel,hbws⟩:=hrel
           by_cases hlg:g < t.gates.length
           · obtain ⟨b1,off,m,rfl,hb1,e0,e1,e2,hM,hsh⟩:=HC3.out g hlg
             replace e0:=(hbel.cell (p:=⟨b1,off + g * 3,none⟩) (by show b1 < b; omega)).trans (HXV.out.cell e0)
             replace e1:=(hbel.cell (p:=⟨b1,off + g * 3 + 1,none⟩) (by show b1 < b; omega)).trans (HXV.out.cell e1)
             replace e2:=(hbel.cell (p:=⟨b1,off + g * 3 + 2,none⟩) (by show b1 < b; omega)).trans (HXV.out.cell e2)
             have n0:=(HKW.out.below hbel (by omega)).cell 0
             simp only [List.getElem?_toArray,List.getElem?_cons_zero,List.getElem?_cons_succ] at n0;obtain ⟨A3,cap3,rfl,_,_,_⟩:=hM.opened;have hxw:Ext w wr:=Below.trans HXV.out (Below.mono hbel (by omega))
             have hx2:=Ext.box wr (.cells #[.string (Q2c t.gates g),.int .i64 (Q2x t.gates g),.slice A3 (Q0l t.gates g).length cap3] 129);have HMM:=Lib.hid (hM.ext (hxw.trans hx2));have HXW:=Lib.hid (hxw.trans hx2);have HBE:=Lib.hid (Below.trans hbel (hx2.below (by omega)))
             have HZG:=Lib.hid hz;have HGE:Hid (X2q (Q2c t.gates g) (Q2x t.gates g) (Q0l t.gates g) ((t.basics.length:Int) + g) = t.Q1u g):=by exact (Z2e _ _ _ _)
             have hs2:(wr.alloc (.cells #[.string (Q2c t.gates g),.int .i64 (Q2x t.gates g),.slice A3 (Q0l t.gates g).length cap3] 129)).heap.size = wr.heap.size + 1:=by simp
             have n0':=hx2.cell n0;clear hz hbel hxw hx2 hM n0
             go_light
             go_wp2_with fail;refine (Y5o _ _ _ _ (Q0l t.gates g) _ HMM.out).mono ?_;rintro e w3 ⟨rfl,hx3⟩;rw [HGE.out];have HXW3:=Lib.hid (HXW.out.trans hx3);have HBE3:=Lib.hid (Below.trans HBE.out (hx3.below (by omega)))
             have hs3:=hx3.size;clear hx3
             by_cases he:t.Q1u g = 0
             · have hne2:(t.Q1u g != 0) = false:=by simp [he]
               have HE0:=Lib.hid he;clear he;go_wp2;go_roundw
               case rel=>exact ⟨g + 1,by omega,by go_num,fun i hi=>by rcases Nat.lt_or_ge i g with h | h; exact HZG.out i h; rw [show i = g from by omega]; exact HE0.out,HBE3.out,by omega⟩
               case measure=>simp [intOf]; omega
             · have hne2:(t.Q1u g != 0) = true:=by simp [he]
               have HE0:=Lib.hid he;clear he;go_wp2;go_ret;exact ⟨Q1f (by rw [HBODY.out.1,HFB.out,← List.append_nil ((List.range t.gates.length).map t.Q1u)]; exact (Q7m hlg HZG.out HE0.out).symm),HXW3.out⟩
           · have HZG:Hid (t.err = 0):=by
              exact (by rw [HBODY.out.1,HFB.out,← List.append_nil ((List.range t.gates.length).map t.Q1u),Q9y (fun i hi=>hz i (by omega))]; rfl:t.err = 0)
             have HXE:Hid (Ext w wr):=by exact (Below.trans HXV.out (Below.mono hbel (by omega)):Ext w wr)
             clear hz hbel;go_wp2;go_ret;exact ⟨Q1f HZG.out.symm,HXE.out⟩
  · have hne:(E != 0) = true:=by simp [hE0]
    have HF:Hid (t.err = E):=by exact (by rw [Z2m (by rw [HFIN.out]; exact hE0),HFIN.out]:t.err = E)
    clear hE0;go_wp2;go_ret;exact ⟨Q1f HF.out.symm,hx0r⟩
end Go.Proofs
