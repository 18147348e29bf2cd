/- Contract: CheckTree. Contracts: all events, path sets, the whole. -/
import Derived.Test.YtghcnlbkghaaeaaDoorPv08
set_option maxRecDepth 1000000
set_option maxHeartbeats 64000000
set_option linter.unusedVariables false
set_option linter.unusedSimpArgs false
set_option linter.constructorNameAsVariable false
namespace Go.Proofs
open Go.RowKit Go.Tw Go.Flow
def Kn (t:Tree) (b B:Nat) (W wr:World) (k:Nat):Prop:=∃ L,Q1f wr b L /\ Knows L (known t k) /\ wr.cell? ⟨B,0,none⟩ = some (.map (some b)) /\ Below b W wr
theorem Q2d (w:World) (v:Value) (t:Tree) (ht:IsTree w v t) :
    Calls Tryd.prog 68 #[v] w fun e w'=>e = .returned (.int .i64 t.err) /\ Ext w w':=by
 have hmm:=@run_makeMap Tryd.prog;obtain ⟨a,bb0,d,rfl,h3⟩:=ht;obtain ⟨A,capa,rfl,hl1,hcap1,hc1⟩:=h3.basics.opened;obtain ⟨Bs,capb,rfl,hl2,hcap2,hc2⟩:=h3.causes.opened;obtain ⟨G,capg,rfl,hl3,hcap3,hc3⟩:=h3.gates.opened;have HC1:=Lib.hid hc1;have HC2:=Lib.hid hc2;have HC3:=Lib.hid hc3;have k0:=Blk.made w 71 #[.slice A t.basics.length capa,.slice Bs t.causes.length capb,.slice G t.gates.length capg];have hx0:=Ext.box w (.cells #[.slice A t.basics.length capa,.slice Bs t.causes.length capb,.slice G t.gates.length capg] 71);have hws:IntKind.i64.wrap ((t.basics.length:Int) + (t.causes.length:Int)) = (t.basics.length:Int) + (t.causes.length:Int):=Q2x _ (by omega) (by omega)
 obtain ⟨p1,hp1⟩:∃ p1,((t.basics.length:Int) == 0) = p1:=⟨_,rfl⟩;obtain ⟨s1,hs1⟩:∃ s1,((t.gates.length:Int) == 0) = s1:=⟨_,rfl⟩;obtain ⟨p2,hp2⟩:∃ p2,decide (12 < (t.basics.length:Int) + t.causes.length) = p2:=⟨_,rfl⟩;obtain ⟨s2,hs2⟩:∃ s2,decide (32 < (t.gates.length:Int)) = s2:=⟨_,rfl⟩;obtain ⟨E,hE⟩:∃ E,firstErr [Q0c (p1 || s1) 12,Q0c (p2 || s2) 5] = E:=⟨_,rfl⟩
 have HE:Hid (∀ (w':World) (u:Value),IsInts w' u [Q0c (p1 || s1) 12,Q0c (p2 || s2) 5] -> Calls Tryd.prog 71 #[u] w' fun e w''=>e = .returned (.int .i64 E) /\ w' = w''):=by
  exact (by intro w' u h; rw [<- hE]; exact first_any _ _ _ h:∀ (w':World) (u:Value),IsInts w' u [Q0c (p1 || s1) 12,Q0c (p2 || s2) 5] -> Calls Tryd.prog 71 #[u] w' fun e w''=>e = .returned (.int .i64 E) /\ w' = w'')
 have hfin:X2x t = E:=by unfold X2x; rw [hp1,hs1,hp2,hs2]; exact hE
 have HFIN:=Lib.hid hfin;clear h3 hc1 hc2 hc3 hE hfin;go_enter Tryd.func68,Tryd.ntmps68;go_wp2;obtain ⟨W,hW⟩:∃ W,w.alloc (.cells #[.slice A t.basics.length capa,.slice Bs t.causes.length capb,.slice G t.gates.length capg] 71) = W:=⟨_,rfl⟩;have hws2:W.heap.size = w.heap.size + 1:=by rw [<- hW]; simp
 rw [hW] at k0 hx0 ⊢;have K0:=Lib.hid k0;clear hW k0;refine Flow.Q3y [.p,.w,.p,.p,.p,.p,.w,.p,.p,.p,.w,.p,.w,.p,.p,.w,.p,.p,.p,.p,.p,.w,.p,.p,.p,.w,.w,.w,.p] [0,1,2,3,4,5,6,7,8,9,10,11,12,13,14,15,16,17,18,19,20,21,22,23,24,25,26,27,28] [[],[0],[1],[2],[3],[4],[4,5],[4,6],[4,7],[4,8],[4,9],[],[11],[12],[],[14],[15],[13,16],[17],[10,18],[19],[19,20],[19,21],[19,22],[19,23],[19,24],[10,25],[25,26],[0,1,2,3,4,5,6,7,8,9,10,11,12,13,14,15,16,17,18,19,20,21,22,23,24,25,26,27]]
  [.c 0 (.pointer (some ⟨w.heap.size,0,none⟩)),.c 1 (.slice A t.basics.length capa),.c 2 (.int .i64 ((t.basics.length:Nat):Int)),.c 3 (.bool p1),.c 4 (.bool p1),.c 5 (Q2b p1 (.pointer (some ⟨w.heap.size,2,none⟩))),.c 6 (Q2b p1 (.slice G t.gates.length capg)),.c 7 (Q2b p1 (.int .i64 ((t.gates.length:Nat):Int))),.c 8 (Q2b p1 (.bool s1)),.c 9 (.bool (p1 || s1)),.c 10 (.int .i64 (Q0c (p1 || s1) 12)),.c 11 (.pointer (some ⟨w.heap.size,0,none⟩)),.c 12 (.slice A t.basics.length capa),.c 13 (.int .i64 ((t.basics.length:Nat):Int)),.c 14 (.pointer (some ⟨w.heap.size,1,none⟩)),.c 15 (.slice Bs t.causes.length capb),.c 16 (.int .i64 ((t.causes.length:Nat):Int)),.c 17 (.int .i64 ((t.basics.length:Int) + (t.causes.length:Int))),.c 18 (.bool p2),.c 19 (.bool p2),.c 20 (Q2b p2 (.pointer (some ⟨w.heap.size,2,none⟩))),.c 21 (Q2b p2 (.slice G t.gates.length capg)),.c 22 (Q2b p2 (.int .i64 ((t.gates.length:Nat):Int))),.c 23 (Q2b p2 (.bool s2)),.c 24 (.bool (p2 || s2)),.c 25 (.int .i64 (Q0c (p2 || s2) 5)),⟨fun v wz=>IsInts wz (v 26) [Q0c (p1 || s1) 12,Q0c (p2 || s2) 5],fun _ _ _ hx h=>h.ext hx⟩,.c 27 (.int .i64 E),.c 28 (.int .i64 E)]
  (by kernel_rfl) rfl (by kernel_rfl) ⟨?g0,?g1,?g2,?g3,?g4,?g5,?g6,?g7,?g8,?g9,?g10,?g11,?g12,?g13,?g14,?g15,?g16,?g17,?g18,?g19,?g20,?g21,?g22,?g23,?g24,?g25,?g26,?g27,?g28,trivial⟩ ?post
 case g0 | g11 | g14=>
  intro v w1 hx;refine ⟨_,fun w=>?_,rfl⟩;go_simp
 case g1 | g12 | g15=>
  intro v w1 hx;(repeat intro (zq:v _ = _));have n0:w1.cell? ⟨w.heap.size,0,none⟩ = some (.slice A t.basics.length capa):=(K0.out.ext ((Ext.refl W).drew.trans hx)).cell 0;have n1:w1.cell? ⟨w.heap.size,1,none⟩ = some (.slice Bs t.causes.length capb):=(K0.out.ext ((Ext.refl W).drew.trans hx)).cell 1;intro K hK;go_simp;exact hK _ _ (Ext.refl _) rfl
 case g2 | g3 | g4 | g13 | g16 | g17 | g18 | g19=>
  intro v w1 hx;(repeat intro (zq:v _ = _));refine ⟨_,fun w=>?_,rfl⟩;go_simp
 case g5=>
  intro v w1 hx;(repeat intro (zq:v _ = _));cases p1 with
  | true=>exact .inr ⟨by go_simp,rfl⟩
  | false =>
    refine .inl ⟨by go_simp,?_⟩
    refine ⟨_,fun w=>?_,rfl⟩;go_simp
 case g6=>
  intro v w1 hx (q4:v 4 = _) (q5:v 5 = Q2b p1 (.pointer (some ⟨w.heap.size,2,none⟩)));have n0:w1.cell? ⟨w.heap.size,2,none⟩ = some (.slice G t.gates.length capg):=(K0.out.ext ((Ext.refl W).drew.trans hx)).cell 2;cases p1 with
  | true=>exact .inr ⟨by go_simp,rfl⟩
  | false =>
    replace q5:v 5 = .pointer (some ⟨w.heap.size,2,none⟩):=q5;refine .inl ⟨by go_simp,?_⟩
    intro K hK;go_simp;exact hK _ _ (Ext.refl _) rfl
 case g7=>
  intro v w1 hx (q4:v 4 = _) (q6:v 6 = Q2b p1 (.slice G t.gates.length capg));cases p1 with
  | true=>exact .inr ⟨by go_simp,rfl⟩
  | false =>
    replace q6:v 6 = .slice G t.gates.length capg:=q6;refine .inl ⟨by go_simp,?_⟩
    refine ⟨_,fun w=>?_,rfl⟩;go_simp
 case g8=>
  intro v w1 hx (q4:v 4 = _) (q7:v 7 = Q2b p1 (.int .i64 ((t.gates.length:Nat):Int)));cases p1 with
  | true=>exact .inr ⟨by go_simp,rfl⟩
  | false =>
    replace q7:v 7 = .int .i64 ((t.gates.length:Nat):Int):=q7;refine .inl ⟨by go_simp,?_⟩
    refine ⟨_,fun w=>?_,rfl⟩;go_simp
 case g9=>
  intro v w1 hx (q4:v 4 = _) (q8:v 8 = Q2b p1 (.bool s1));refine ⟨.bool (p1 || s1),fun w=>?_,rfl⟩
  cases p1 with
  | true=>go_simp
  | false=>go_simp; rfl
 case g10 | g25=>
  intro v w1 hx;(repeat intro (zq:v _ = _));intro K hK;go_simp;refine Q0b (Q4g _ _ _) ?_;rintro e w2 ⟨rfl,rfl⟩;exact ⟨_,rfl,hK _ _ (Ext.refl _) rfl⟩
 case g20=>
  intro v w1 hx;(repeat intro (zq:v _ = _));cases p2 with
  | true=>exact .inr ⟨by go_simp,rfl⟩
  | false =>
    refine .inl ⟨by go_simp,?_⟩
    refine ⟨_,fun w=>?_,rfl⟩;go_simp
 case g21=>
  intro v w1 hx (q19:v 19 = _) (q20:v 20 = Q2b p2 (.pointer (some ⟨w.heap.size,2,none⟩)));have n0:w1.cell? ⟨w.heap.size,2,none⟩ = some (.slice G t.gates.length capg):=(K0.out.ext ((Ext.refl W).drew.trans hx)).cell 2;cases p2 with
  | true=>exact .inr ⟨by go_simp,rfl⟩
  | false =>
    replace q20:v 20 = .pointer (some ⟨w.heap.size,2,none⟩):=q20;refine .inl ⟨by go_simp,?_⟩
    intro K hK;go_simp;exact hK _ _ (Ext.refl _) rfl
 case g22=>
  intro v w1 hx (q19:v 19 = _) (q21:v 21 = Q2b p2 (.slice G t.gates.length capg));cases p2 with
  | true=>exact .inr ⟨by go_simp,rfl⟩
  | false =>
    replace q21:v 21 = .slice G t.gates.length capg:=q21;refine .inl ⟨by go_simp,?_⟩
    refine ⟨_,fun w=>?_,rfl⟩;go_simp
 case g23=>
  intro v w1 hx (q19:v 19 = _) (q22:v 22 = Q2b p2 (.int .i64 ((t.gates.length:Nat):Int)));cases p2 with
  | true=>exact .inr ⟨by go_simp,rfl⟩
  | false =>
    replace q22:v 22 = .int .i64 ((t.gates.length:Nat):Int):=q22;refine .inl ⟨by go_simp,?_⟩
    refine ⟨_,fun w=>?_,rfl⟩;go_simp
 case g24=>
  intro v w1 hx (q19:v 19 = _) (q23:v 23 = Q2b p2 (.bool s2));refine ⟨.bool (p2 || s2),fun w=>?_,rfl⟩
  cases p2 with
  | true=>go_simp
  | false=>go_simp; rfl
 case g26=>
  intro v w1 hx;(repeat intro (zq:v _ = _));intro K hK;go_simp;exact hK _ _ (Ext.box _ _) (Q2k (l:=[Q0c (p1 || s1) 12,Q0c (p2 || s2) 5]) (by simp))
 case g27=>
  intro v w1 hx (q25:v 25 = _) (q26:IsInts w1 (v 26) [Q0c (p1 || s1) 12,Q0c (p2 || s2) 5]);intro K hK;go_simp;refine Q0b (HE.out _ _ q26) ?_;rintro e w2 ⟨rfl,rfl⟩;exact ⟨_,rfl,hK _ _ (Ext.refl _) rfl⟩
 case g28=>
  intro v w1 hx (q0:v 0 = _) (q1:v 1 = _) (q2:v 2 = _) (q3:v 3 = _) (q4:v 4 = _) (q5:v 5 = Q2b p1 (.pointer (some ⟨w.heap.size,2,none⟩))) (q6:v 6 = Q2b p1 (.slice G t.gates.length capg)) (q7:v 7 = Q2b p1 (.int .i64 ((t.gates.length:Nat):Int))) (q8:v 8 = Q2b p1 (.bool s1)) (q9:v 9 = _) (q10:v 10 = _) (q11:v 11 = _) (q12:v 12 = _) (q13:v 13 = _) (q14:v 14 = _) (q15:v 15 = _) (q16:v 16 = _) (q17:v 17 = _) (q18:v 18 = _) (q19:v 19 = _) (q20:v 20 = Q2b p2 (.pointer (some ⟨w.heap.size,2,none⟩))) (q21:v 21 = Q2b p2 (.slice G t.gates.length capg)) (q22:v 22 = Q2b p2 (.int .i64 ((t.gates.length:Nat):Int))) (q23:v 23 = Q2b p2 (.bool s2)) (q24:v 24 = _) (q25:v 25 = _) _ (q27:v 27 = _);refine ⟨_,fun w=>?_,rfl⟩;go_simp
 case post =>
  intro v w1 hx (q0:v 0 = _) (q1:v 1 = _) (q2:v 2 = _) (q3:v 3 = _) (q4:v 4 = _) (q5:v 5 = Q2b p1 (.pointer (some ⟨w.heap.size,2,none⟩))) (q6:v 6 = Q2b p1 (.slice G t.gates.length capg)) (q7:v 7 = Q2b p1 (.int .i64 ((t.gates.length:Nat):Int))) (q8:v 8 = Q2b p1 (.bool s1)) (q9:v 9 = _) (q10:v 10 = _) (q11:v 11 = _) (q12:v 12 = _) (q13:v 13 = _) (q14:v 14 = _);(iterate 5 intro (zq:v _ = _));intro (q20:v 20 = Q2b p2 (.pointer (some ⟨w.heap.size,2,none⟩))) (q21:v 21 = Q2b p2 (.slice G t.gates.length capg)) (q22:v 22 = Q2b p2 (.int .i64 ((t.gates.length:Nat):Int))) (q23:v 23 = Q2b p2 (.bool s2));(iterate 2 intro (zq:v _ = _));intro (q26:IsInts w1 (v 26) [Q0c (p1 || s1) 12,Q0c (p2 || s2) 5]);(iterate 2 intro (zq:v _ = _));simp only [Flow.All,Flow.acts,Act.put];go_simp;have hxr:=(Ext.refl W).drew.trans hx;have hx0r:=hx0.trans hxr;clear HE hws hp1 hs1 hp2 hs2
  by_cases hE0:E = 0
  . have hne:(E != 0) = false:=by simp [hE0]
    have HBODY:=Lib.hid (X9l (t:=t) (by rw [HFIN.out]; exact hE0))
    clear hE0;have hb0:=Ext.box w1 (.map #[] 0);have hb1:=Ext.box (w1.alloc (.map #[] 0)) (.cells #[.map (some w1.heap.size)] 140);have m0:=(Q1f.made w1).ext hb1;have hcB:((w1.alloc (.map #[] 0)).alloc (.cells #[.map (some w1.heap.size)] 140)).cell? ⟨w1.heap.size + 1,0,none⟩ = some (.map (some w1.heap.size)):=by
     have h:=Q0d (w1.alloc (.map #[] 0)) #[.map (some w1.heap.size)] 140 0;have e:(w1.alloc (.map #[] 0)).heap.size = w1.heap.size + 1:=by simp
     rw [e] at h; exact h
    have hsz:=hxr.size;have hws3:w.heap.size + 1 <= w1.heap.size:=by omega
    have KW:=(K0.out.ext hxr).ext (hb0.trans hb1);have n0:=KW.cell 0;simp only [Go.Tw.gA,Go.Tw.gB] at n0;go_wp2;obtain ⟨V,hV⟩:∃ V,(w1.alloc (.map #[] 0)).alloc (.cells #[.map (some w1.heap.size)] 140) = V:=⟨_,rfl⟩;have hVs:V.heap.size = w1.heap.size + 1 + 1:=by rw [<- hV]; simp
    have hxV:Ext w V:=hx0r.trans (by rw [<- hV]; exact hb0.trans hb1)
    rw [hV] at m0 hcB KW ⊢;obtain ⟨b,hb⟩:∃ b,w1.heap.size = b:=⟨_,rfl⟩;obtain ⟨B,hB⟩:∃ B,b + 1 = B:=⟨_,rfl⟩;rw [hb] at m0 hcB hws3 hVs;rw [hB] at hcB hVs;rw [hb,hB];have HKW:=Lib.hid KW;have HXV:=Lib.hid hxV;have HK0:Hid (Kn t b B V V 0):=by exact ⟨[],m0,Knows.nil,hcB,Below.refl _ _⟩
    clear hb0 hb1 m0 hcB hV hb KW hxV n0 hx hxr hx0r hx0 hsz
    go_loopw [51] (fun i wr=>∃ (k:Nat),k <= t.basics.length /\ i = .int .i64 k /\ (∀ j,j < k -> t.eventErr j = 0) /\ Kn t b B V wr k) (fun i _=>t.basics.length - (intOf i).toNat)
    case atStart=>exact ⟨0,Nat.zero_le _,rfl,fun j hj=>by omega,HK0.out⟩
    case round =>
     obtain ⟨k,hk,rfl,hz,L,hm,hkn,hcB,hbel⟩:=hrel
     by_cases hlt:k < t.basics.length
     . obtain ⟨b1,off,rfl,hb1,e0,e1,hsh⟩:=HC1.out k hlt
       replace e0:=(hbel.cell (p:=⟨b1,off + k * 2,none⟩) (by show b1 < b; omega)).trans (HXV.out.cell e0)
       replace e1:=(hbel.cell (p:=⟨b1,off + k * 2 + 1,none⟩) (by show b1 < b; omega)).trans (HXV.out.cell e1)
       have HZ:=Lib.hid hz;have HM:=Lib.hid hm;have HKN:=Lib.hid hkn;have HBEL:=Lib.hid hbel;have HEQ:=Lib.hid (X7l t hlt);have hnm:t.nameAt k = bName t.basics k:=by unfold Tree.nameAt; rw [if_pos hlt]
       have HNM:=Lib.hid hnm;have hx2:=Ext.box wr (.cells #[.string (bName t.basics k),.int .i64 (bChance t.basics k)] 134);have HX2:=Lib.hid hx2;have hbw:=hm.lt;have HCB:=Lib.hid hcB;clear hz hm hkn hbel hnm hx2 hcB;go_wp2_with fail;refine (Q8o _ _ _ B b L (known t k) hsh (HX2.out.cell HCB.out) (HM.out.ext HX2.out) HKN.out).mono ?_;rintro e w3 ⟨rfl,hm3,hB3,hb3,hs3⟩;rw [HEQ.out];have hbel3:Below b V w3:=Below.trans (Below.trans HBEL.out (HX2.out.below (by omega))) (hb3 b (Nat.le_refl _))
       by_cases he:t.eventErr k = 0
       . have hne2:(t.eventErr k != 0) = false:=by simp [he]
         have HE0:=Lib.hid he;have HM3:=Lib.hid hm3;clear he hm3;go_wp2;go_roundw
         case rel=>exact ⟨k + 1,by omega,by go_num,fun j hj=>by rcases Nat.lt_or_ge j k with h | h; exact HZ.out j h; rw [show j = k from by omega]; exact HE0.out,_,HM3.out,by rw [Q8w,HNM.out]; exact HKN.out.put _,hB3,hbel3⟩
         case measure=>simp [intOf]; omega
       . have hne2:(t.eventErr k != 0) = true:=by simp [he]
         have HE0:=Lib.hid he;clear he;go_wp2;go_ret;exact ⟨ret_int (by rw [HBODY.out.1]; exact (Q9p (by unfold Tree.size; omega) HZ.out HE0.out).symm),Below.trans HXV.out (Below.mono hbel3 (by omega))⟩
     . have hkn0:k = t.basics.length:=by omega
       subst hkn0;have n1:=(HKW.out.below hbel (by omega)).cell 1
       have HK1:Hid (Kn t b B V wr (t.basics.length + 0)):=by exact ⟨L,hm,hkn,hcB,hbel⟩
       have HZ1:=Lib.hid hz;clear hm hkn hcB hbel hz HK0;go_wp2
       go_loopw [68] (fun i wr=>∃ (j:Nat),j <= t.causes.length /\ i = .int .i64 j /\ (∀ i,i < t.basics.length + j -> t.eventErr i = 0) /\ Kn t b B V wr (t.basics.length + j)) (fun i _=>t.causes.length - (intOf i).toNat)
       case atStart=>exact ⟨0,Nat.zero_le _,rfl,HZ1.out,HK1.out⟩
       case round =>
        clear HK1 HZ1 n1;obtain ⟨j,hj,rfl,hz,L,hm,hkn,hcB,hbel⟩:=hrel
        by_cases hlj:j < t.causes.length
        . obtain ⟨b1,off,m,rfl,hb1,e0,e1,e2,hM,hsh⟩:=HC2.out j hlj
          replace e0:=(hbel.cell (p:=⟨b1,off + j * 3,none⟩) (by show b1 < b; omega)).trans (HXV.out.cell e0)
          replace e1:=(hbel.cell (p:=⟨b1,off + j * 3 + 1,none⟩) (by show b1 < b; omega)).trans (HXV.out.cell e1)
          replace e2:=(hbel.cell (p:=⟨b1,off + j * 3 + 2,none⟩) (by show b1 < b; omega)).trans (HXV.out.cell e2)
          obtain ⟨A3,cap3,rfl,_,_,_⟩:=hM.opened;have HMM:=Lib.hid hM;have HZ:=Lib.hid hz;have HM:=Lib.hid hm;have HKN:=Lib.hid hkn;have HBEL:=Lib.hid hbel;have HEQ:=Lib.hid (X6o t j);have hnm:t.nameAt (t.basics.length + j) = cName t.causes j:=by unfold Tree.nameAt; rw [if_neg (by omega),Nat.add_sub_cancel_left]
          have HNM:=Lib.hid hnm;have hx2:=Ext.box wr (.cells #[.string (cName t.causes j),.int .i64 (cChance t.causes j),.slice A3 (cMembers t.causes j).length cap3] 166);have f2:(wr.alloc (.cells #[.string (cName t.causes j),.int .i64 (cChance t.causes j),.slice A3 (cMembers t.causes j).length cap3] 166)).cell? ⟨wr.heap.size,2,none⟩ = some (.slice A3 (cMembers t.causes j).length cap3):=Q0d _ _ _ 2;have HX2:=Lib.hid hx2;have HF2:=Lib.hid f2;have hbw:=hm.lt;have HCB:=Lib.hid hcB;clear hz hm hkn hbel hnm hx2 hcB hM f2
          go_light
          go_wp2_with fail;refine (Q8o _ _ _ B b L (known t (t.basics.length + j)) hsh (HX2.out.cell HCB.out) (HM.out.ext HX2.out) HKN.out).mono ?_;rintro e w3 ⟨rfl,hm3,hB3,hb3,hs3⟩;have hbel3:Below b V w3:=Below.trans (Below.trans HBEL.out (HX2.out.below (by omega))) (hb3 b (Nat.le_refl _))
          have hxw3:Ext w w3:=Below.trans HXV.out (Below.mono hbel3 (by omega))
          have g2:w3.cell? ⟨wr.heap.size,2,none⟩ = some (.slice A3 (cMembers t.causes j).length cap3):=(Q4e hs3 (by simp) (by intro h; injection h with h; omega)).trans HF2.out
          have n0:w3.cell? ⟨w.heap.size,0,none⟩ = some (.slice A t.basics.length capa):=(HKW.out.below hbel3 (by omega)).cell 0
          obtain ⟨E1,hE1⟩:∃ E1,checkN (cName t.causes j) (cChance t.causes j) (known t (t.basics.length + j) (cName t.causes j)) = E1:=⟨_,rfl⟩;rw [hE1];have hE2:firstErr [E1,Q0c (((cMembers t.causes j).length:Int) == 0) 12,setErr (cMembers t.causes j) t.basics.length] = t.eventErr (t.basics.length + j):=by rw [<- HEQ.out,hE1]; rfl
          have HE:Hid (∀ (w':World) (u:Value),IsInts w' u [E1,Q0c (((cMembers t.causes j).length:Int) == 0) 12,setErr (cMembers t.causes j) t.basics.length] -> Calls Tryd.prog 71 #[u] w' fun e w''=>e = .returned (.int .i64 (t.eventErr (t.basics.length + j))) /\ w' = w''):=by
           exact (by intro w' u h; rw [<- hE2]; exact first_any _ _ _ h:∀ (w':World) (u:Value),IsInts w' u [E1,Q0c (((cMembers t.causes j).length:Int) == 0) 12,setErr (cMembers t.causes j) t.basics.length] -> Calls Tryd.prog 71 #[u] w' fun e w''=>e = .returned (.int .i64 (t.eventErr (t.basics.length + j))) /\ w' = w'')
          have HM3:=Lib.hid hm3;have HB3:=Lib.hid hB3;have HG:=Lib.hid g2;have HN0:=Lib.hid n0;have HX3:=Lib.hid hxw3;have HBE3:=Lib.hid hbel3;have hwrb:b < w3.heap.size:=hm3.lt;have hd3:=(Ext.refl w3).drew;clear hm3 hB3 hb3 hs3 hE1 hE2 g2 n0 hxw3 hbel3 e0 e1 e2 HEQ HF2 HM;go_wp2;refine Flow.Q3y [.p,.p,.w,.p,.p,.w,.p,.w,.p,.w,.p,.w,.w,.w,.p] [0,1,2,3,4,5,6,7,8,9,10,11,12,13,14] [[],[],[1],[2],[3],[4],[],[6],[],[8],[9],[5,7,10],[0,5,11],[11,12],[0,1,2,3,4,5,6,7,8,9,10,11,12,13]]
           [.c 0 (.int .i64 E1),.c 1 (.pointer (some ⟨wr.heap.size,2,none⟩)),.c 2 (.slice A3 (cMembers t.causes j).length cap3),.c 3 (.int .i64 ((cMembers t.causes j).length:Int)),.c 4 (.bool (((cMembers t.causes j).length:Int) == 0)),.c 5 (.int .i64 (Q0c (((cMembers t.causes j).length:Int) == 0) 12)),.c 6 (.pointer (some ⟨wr.heap.size,2,none⟩)),.c 7 (.slice A3 (cMembers t.causes j).length cap3),.c 8 (.pointer (some ⟨w.heap.size,0,none⟩)),.c 9 (.slice A t.basics.length capa),.c 10 (.int .i64 ((t.basics.length:Nat):Int)),.c 11 (.int .i64 (setErr (cMembers t.causes j) t.basics.length)),⟨fun v wz=>IsInts wz (v 12) [E1,Q0c (((cMembers t.causes j).length:Int) == 0) 12,setErr (cMembers t.causes j) t.basics.length],fun _ _ _ hx h=>h.ext hx⟩,.c 13 (.int .i64 (t.eventErr (t.basics.length + j))),.c 14 (.int .i64 (t.eventErr (t.basics.length + j)))]
           (by kernel_rfl) rfl (by kernel_rfl) ⟨?g0,?g1,?g2,?g3,?g4,?g5,?g6,?g7,?g8,?g9,?g10,?g11,?g12,?g13,?g14,trivial⟩ ?post
          case g0 | g1 | g6 | g8=>
           intro v w1 hx;refine ⟨_,fun w=>?_,rfl⟩;go_simp
          case g2 | g7=>
           intro v w1 hx;(repeat intro (zq:v _ = _));have n0:=(hd3.trans hx).cell HG.out;intro K hK;go_simp;exact hK _ _ (Ext.refl _) rfl
          case g3 | g4 | g10=>
           intro v w1 hx;(repeat intro (zq:v _ = _));refine ⟨_,fun w=>?_,rfl⟩;go_simp
          case g5=>
           intro v w1 hx;(repeat intro (zq:v _ = _));intro K hK;go_simp;refine Q0b (Q4g _ _ _) ?_;rintro e w2 ⟨rfl,rfl⟩;exact ⟨_,rfl,hK _ _ (Ext.refl _) rfl⟩
          case g9=>
           intro v w1 hx;(repeat intro (zq:v _ = _));have n0:=(hd3.trans hx).cell HN0.out;intro K hK;go_simp;exact hK _ _ (Ext.refl _) rfl
          case g11=>
           intro v w1 hx;(repeat intro (zq:v _ = _));intro K hK;go_simp;refine Q0b (Q2e _ _ (cMembers t.causes j) _ (HMM.out.ext (HX3.out.trans (hd3.trans hx)))) ?_;rintro e w2 ⟨rfl,hx2⟩;exact ⟨_,rfl,hK _ _ hx2 rfl⟩
          case g12=>
           intro v w1 hx;(repeat intro (zq:v _ = _));intro K hK;go_simp;exact hK _ _ (Ext.box _ _) (Q2k (l:=[E1,Q0c (((cMembers t.causes j).length:Int) == 0) 12,setErr (cMembers t.causes j) t.basics.length]) (by simp))
          case g13=>
           intro v w1 hx (q11:v 11 = _) (q12:IsInts w1 (v 12) [E1,Q0c (((cMembers t.causes j).length:Int) == 0) 12,setErr (cMembers t.causes j) t.basics.length]);intro K hK;go_simp;refine Q0b (HE.out _ _ q12) ?_;rintro e w2 ⟨rfl,rfl⟩;exact ⟨_,rfl,hK _ _ (Ext.refl _) rfl⟩
          case g14=>
           intro v w1 hx (q0:v 0 = _) (q1:v 1 = _) (q2:v 2 = _) (q3:v 3 = _) (q4:v 4 = _) (q5:v 5 = _) (q6:v 6 = _) (q7:v 7 = _) (q8:v 8 = _) (q9:v 9 = _) (q10:v 10 = _) (q11:v 11 = _) _ (q13:v 13 = _);refine ⟨_,fun w=>?_,rfl⟩;go_simp
          case post =>
           intro v w1 hx;(iterate 12 intro (zq:v _ = _));intro (q12:IsInts w1 (v 12) [E1,Q0c (((cMembers t.causes j).length:Int) == 0) 12,setErr (cMembers t.causes j) t.basics.length]);(iterate 2 intro (zq:v _ = _));simp only [Flow.All,Flow.acts,Act.put];go_simp;have hxx:=hd3.trans hx;have HXX:=Lib.hid hxx;have HX4:=Lib.hid (HX3.out.trans hxx);clear hxx hx HE
           by_cases he:t.eventErr (t.basics.length + j) = 0
           . have hne2:(t.eventErr (t.basics.length + j) != 0) = false:=by simp [he]
             have HE0:=Lib.hid he;clear he;go_wp2;go_roundw
             case rel=>exact ⟨j + 1,by omega,by go_num,fun i hi=>by rcases Nat.lt_or_ge i (t.basics.length + j) with h | h; exact HZ.out i h; rw [show i = t.basics.length + j from by omega]; exact HE0.out,_,HM3.out.ext HXX.out,by rw [show t.basics.length + (j + 1) = t.basics.length + j + 1 from rfl,Q8w,HNM.out]; exact HKN.out.put _,HXX.out.cell HB3.out,Below.trans HBE3.out (HXX.out.below (by omega))⟩
             case measure=>simp [intOf]; omega
           . have hne2:(t.eventErr (t.basics.length + j) != 0) = true:=by simp [he]
             have HE0:=Lib.hid he;clear he;go_wp2;go_ret;exact ⟨ret_int (by rw [HBODY.out.1]; exact (Q9p (by unfold Tree.size; omega) HZ.out HE0.out).symm),HX4.out⟩
        . have HZ:Hid (∀ i,i < t.size -> t.eventErr i = 0):=Lib.hid (fun i hi=>hz i (by unfold Tree.size at hi; omega))
          have n2:=(HKW.out.below hbel (by omega)).cell 2
          simp only [Go.Tw.gA,Go.Tw.gB,Go.Tw.gC] at n2;have HX3:Hid (Below b V wr):=hbel;have HFB:=Lib.hid (Q8v (r:=(List.range t.gates.length).map t.gateErrAt) HZ.out);have hbws:b < wr.heap.size:=hm.lt;clear hz hm hkn hcB hbel;go_wp2
          go_loopw [99] (fun i wr=>∃ (g:Nat),g <= t.gates.length /\ i = .int .i64 g /\ (∀ i,i < g -> t.gateErrAt i = 0) /\ Below b V wr /\ b < wr.heap.size) (fun i _=>t.gates.length - (intOf i).toNat)
          case atStart=>exact ⟨0,Nat.zero_le _,rfl,fun i hi=>by omega,HX3.out,hbws⟩
          case round =>
           clear HX3 hbws n2;obtain ⟨g,hg,rfl,hz,hbel,hbws⟩:=hrel
           by_cases hlg:g < t.gates.length
           . obtain ⟨b1,off,m,rfl,hb1,e0,e1,e2,hM,hsh⟩:=HC3.out g hlg
             replace e0:=(hbel.cell (p:=⟨b1,off + g * 3,none⟩) (by show b1 < b; omega)).trans (HXV.out.cell e0)
             replace e1:=(hbel.cell (p:=⟨b1,off + g * 3 + 1,none⟩) (by show b1 < b; omega)).trans (HXV.out.cell e1)
             replace e2:=(hbel.cell (p:=⟨b1,off + g * 3 + 2,none⟩) (by show b1 < b; omega)).trans (HXV.out.cell e2)
             have n0:=(HKW.out.below hbel (by omega)).cell 0
             simp only [Go.Tw.gA,Go.Tw.gB,Go.Tw.gC] at n0;obtain ⟨A3,cap3,rfl,_,_,_⟩:=hM.opened;have hxw:Ext w wr:=Below.trans HXV.out (Below.mono hbel (by omega))
             have hx2:=Ext.box wr (.cells #[.string (gKind t.gates g),.int .i64 (gNeed t.gates g),.slice A3 (gInputs t.gates g).length cap3] 83);have HMM:=Lib.hid (hM.ext (hxw.trans hx2));have HXW:=Lib.hid (hxw.trans hx2);have HBE:=Lib.hid (Below.trans hbel (hx2.below (by omega)))
             have HZG:=Lib.hid hz;have HGE:Hid (Q6c (gKind t.gates g) (gNeed t.gates g) (gInputs t.gates g) ((t.basics.length:Int) + g) = t.gateErrAt g):=by exact (X9f _ _ _ _)
             have hs2:(wr.alloc (.cells #[.string (gKind t.gates g),.int .i64 (gNeed t.gates g),.slice A3 (gInputs t.gates g).length cap3] 83)).heap.size = wr.heap.size + 1:=by simp
             have n0':=hx2.cell n0;clear hz hbel hxw hx2 hM n0
             go_light
             go_wp2_with fail;refine (X5f _ _ _ _ (gInputs t.gates g) _ HMM.out).mono ?_;rintro e w3 ⟨rfl,hx3⟩;rw [HGE.out];have HXW3:=Lib.hid (HXW.out.trans hx3);have HBE3:=Lib.hid (Below.trans HBE.out (hx3.below (by omega)))
             have hs3:=hx3.size;clear hx3
             by_cases he:t.gateErrAt g = 0
             . have hne2:(t.gateErrAt g != 0) = false:=by simp [he]
               have HE0:=Lib.hid he;clear he;go_wp2;go_roundw
               case rel=>exact ⟨g + 1,by omega,by go_num,fun i hi=>by rcases Nat.lt_or_ge i g with h | h; exact HZG.out i h; rw [show i = g from by omega]; exact HE0.out,HBE3.out,by omega⟩
               case measure=>simp [intOf]; omega
             . have hne2:(t.gateErrAt g != 0) = true:=by simp [he]
               have HE0:=Lib.hid he;clear he;go_wp2;go_ret;exact ⟨ret_int (by rw [HBODY.out.1,HFB.out,<- List.append_nil ((List.range t.gates.length).map t.gateErrAt)]; exact (Q9p hlg HZG.out HE0.out).symm),HXW3.out⟩
           . have HZG:Hid (t.err = 0):=by
              exact (by rw [HBODY.out.1,HFB.out,<- List.append_nil ((List.range t.gates.length).map t.gateErrAt),Q8v (fun i hi=>hz i (by omega))]; rfl:t.err = 0)
             have HXE:Hid (Ext w wr):=Lib.hid (Below.trans HXV.out (Below.mono hbel (by omega)))
             clear hz hbel;go_wp2;go_ret;exact ⟨ret_int HZG.out.symm,HXE.out⟩
  . have hne:(E != 0) = true:=by simp [hE0]
    have HF:Hid (t.err = E):=Lib.hid (by rw [Y0d (by rw [HFIN.out]; exact hE0),HFIN.out])
    clear hE0;go_wp2;go_ret;exact ⟨ret_int HF.out.symm,hx0r⟩
end Go.Proofs
namespace Go.Proofs
open Go.RowKit Go.Tw Go.Flow
theorem X3x {a b:Nat} (ha:a < 2 ^ 62) (hb:b < 2 ^ 62):bits .andNot .i64 (a:Int) (b:Int) = ((Q1g a b:Nat):Int):=by
 have e1:(BitVec.ofInt 64 (a:Int)).toNat = a:=by rw [BitVec.ofInt_natCast,BitVec.toNat_ofNat]; exact Nat.mod_eq_of_lt (by omega)
 have e2:(BitVec.ofInt 64 (b:Int)).toNat = b:=by rw [BitVec.ofInt_natCast,BitVec.toNat_ofNat]; exact Nat.mod_eq_of_lt (by omega)
 have e3:(BitVec.ofInt 64 (a:Int) &&& ~~~ BitVec.ofInt 64 (b:Int)).toNat = Q1g a b:=by
  apply Nat.eq_of_testBit_eq
  intro i;rw [Q1t,BitVec.toNat_and,e1,BitVec.toNat_not,e2,Nat.testBit_and,Nat.sub_sub,Nat.add_comm 1 b,Nat.testBit_two_pow_sub_succ (by omega)]
  by_cases hi:i < 64
  . rw [decide_eq_true hi,Bool.true_and]
  . rw [Nat.testBit_lt_two_pow (Nat.lt_of_lt_of_le ha (Nat.pow_le_pow_right (by omega) (by omega)))]; rfl
 have h4:=Q3z b ha;show IntKind.i64.wrap ((BitVec.ofInt 64 (a:Int) &&& ~~~ BitVec.ofInt 64 (b:Int)).toNat:Int) = _;rw [e3];exact Q2x _ (by omega) (by omega)
theorem X5q {n:Nat} (h:n <= 12):wrap64 (2 ^ (4 * n)) = ((Q4h 16 n:Nat):Int):=by
 rw [X6k (by omega)]
 unfold Q4h;rw [show (16:Nat) = 2 ^ 4 from rfl,<- Nat.pow_mul]
theorem X7o (w:World) (t:Tree) (c:List Int) (A G:Option Addr) (n cap m capg:Nat) (hs:t.size <= 12) :
    Calls Tryd.prog 105 #[noV t c (.slice A n cap) (.slice G m capg)] w fun e w'=>e = .returned (.int .i64 (Q4h 16 t.size:Nat)) /\ Ext w w':=by
 unfold noV;have HA:=Lib.hid (X5q hs);go_enter Tryd.func105,Tryd.ntmps105;go_wp2;go_ret;exact ⟨ret_int HA.out,Ext.box _ _⟩
end Go.Proofs
