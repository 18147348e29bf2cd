/- Contract: Print. -/
import Derived.Test.YtmaejccjimkbiaaGreatDoorFx37
set_option linter.unusedVariables false
set_option linter.unusedSimpArgs false
set_option linter.constructorNameAsVariable false
namespace Go.Proofs
open Go.RowKit Go.Tw Go.Flow
theorem X3f {w w':World} (hg:w.grownBy w' none):Ext w w':=by
 obtain ⟨h1,h2,h3,h4,h5⟩:=hg;exact ⟨h1,h2,h3,h4,fun k hk=>h5 k hk (by simp)⟩
theorem X7h {t:Tree} (hv:Valid t) {k:Nat} (hk:k < t.causes.length):(lineS Y0g (cName t.causes k) (Q1d t.causes k :: Q0c t.causes k)).size ≤ 5000000:=by
 have h:=hv.cause hk;exact X2m (by rw [List.length_cons]; omega) (by decide) (by omega) fun x hx=>by
  rcases List.mem_cons.1 hx with rfl | hx
  · exact h.1
  · exact h.2.2.2.1 x hx
theorem X7b {t:Tree} (hv:Valid t) {k:Nat} (hk:k < t.gates.length):(lineS Y7q (Q2c t.gates k) (Q2x t.gates k :: Q0l t.gates k)).size ≤ 5000000:=by
 have h:=hv.Z5c hk;exact X2m (by rw [List.length_cons]; omega) (by decide) (by omega) fun x hx=>by
  rcases List.mem_cons.1 hx with rfl | hx
  · exact h.1
  · exact h.2.2.2.1 x hx
theorem Q8t {t:Tree} (hv:Valid t) (s:ByteArray):∀ k,k ≤ t.causes.length → (Q4q t s k).size ≤ s.size + k * 5000000
 | 0,_=>by simp [Q4q]
 | k + 1,h=>by
   have h1:=Q8t hv s k (by omega)
   have h2:=X7h hv (k:=k) (by omega)
   rw [Q4q,ByteArray.size_append];omega
theorem X3d {t:Tree} (hv:Valid t) (s:ByteArray):∀ k,k ≤ t.gates.length → (Q6o t s k).size ≤ s.size + k * 5000000
 | 0,_=>by simp [Q6o]
 | k + 1,h=>by
   have h1:=X3d hv s k (by omega)
   have h2:=X7b hv (k:=k) (by omega)
   rw [Q6o,ByteArray.size_append];omega
set_option maxRecDepth 100000 in
set_option maxHeartbeats 4000000 in
theorem Y6h (w:World) (v:Value) (t:Tree) (ht:IsTree w v t) :
    Calls Tryz.prog 55 #[v] w fun e w'=>e = .returned (.tuple #[.string (X2r t),.int .i64 t.err]) ∧ Ext w w':=by
 obtain ⟨i0,hi,hz0,hz1,hz2⟩:=info_parts Tryz.info3;obtain ⟨a,b,c,rfl,h3⟩:=ht;obtain ⟨A,capa,rfl,hl1,hcap1,_⟩:=h3.basics.opened;obtain ⟨B,capb,rfl,hl2,hcap2,_⟩:=h3.causes.opened;obtain ⟨G,capg,rfl,hl3,hcap3,_⟩:=h3.gates.opened;have HT0:=Lib.hid h3;clear h3;go_enter Tryz.func55,Tryz.ntmps55;go_wp2_with fail;change Calls _ _ _ (w.alloc (.cells #[.slice A t.basics.length capa,.slice B t.causes.length capb,.slice G t.gates.length capg] 37)) _;have k0:=Blk.made w 37 #[.slice A t.basics.length capa,.slice B t.causes.length capb,.slice G t.gates.length capg];have x0:=Ext.box w (.cells #[.slice A t.basics.length capa,.slice B t.causes.length capb,.slice G t.gates.length capg] 37);have es0:(w.alloc (.cells #[.slice A t.basics.length capa,.slice B t.causes.length capb,.slice G t.gates.length capg] 37)).heap.size = w.heap.size + 1:=by simp
 obtain ⟨X0,hX0⟩:∃ X,w.alloc (.cells #[.slice A t.basics.length capa,.slice B t.causes.length capb,.slice G t.gates.length capg] 37) = X:=⟨_,rfl⟩;rw [hX0] at k0 x0 es0 ⊢;clear hX0;have e0:X0.heap.size = w.heap.size + 1:=by omega
 have HXW:Hid (Ext w X0):=by exact (x0:Ext w X0)
 have eW:X0.heap.size = w.heap.size + 1:=e0;clear x0 es0 e0;obtain ⟨W,hWW⟩:∃ W,X0 = W:=⟨_,rfl⟩;rw [hWW] at HXW eW ⊢ k0;clear hWW;have HT:=Lib.hid (HT0.out.ext HXW.out);refine (Q2j _ _ t ⟨_,_,_,rfl,HT.out⟩).mono ?_;rintro e w1 ⟨rfl,hx1⟩;have kt:=k0.ext hx1;have c0:=kt.cell 0;have c1:=kt.cell 1;have c2:=kt.cell 2;simp only [List.getElem?_toArray,List.getElem?_cons_zero,List.getElem?_cons_succ] at c0 c1 c2;have HXX:=Lib.hid (HXW.out.trans hx1);have HX1:=Lib.hid hx1;clear kt hx1;obtain ⟨wz,hwz⟩:∃ x,x = w1:=⟨_,rfl⟩;subst hwz;have K1:=Lib.hid (k0.ext HX1.out);have HT1:=Lib.hid (HT.out.ext HX1.out);clear k0
 by_cases he:t.err = 0
 · have HPR:Hid (X2r t = Q6o t (Q4q t (X6i t) t.causes.length) t.gates.length):=by exact (by unfold X2r; rw [if_pos he]:X2r t = _)
   have HE:=Lib.hid he;have HV:=Lib.hid (Valid.of he);have hsz:=HV.out.size;unfold Tree.size at hsz;have hng:=HV.out.ng';have hnb:=HV.out.nb;have hne:(t.err != 0) = false:=by rw [he]; rfl
   clear he;go_wp2_with fail;refine (Y1p _ _ t.basics HT1.out.basics (by omega) (fun k hk=>HV.out.basic hk)).mono ?_
   rintro e wb ⟨u,rfl,hown,hxb⟩;have hbs:∀ x ∈ t.basics.map X0m,x.size ≤ 5000000:=by
    intro x hx;obtain ⟨k,hk,rfl⟩:=List.getElem_of_mem hx;rw [List.getElem_map];rw [List.length_map] at hk;have h:=HV.out.basic hk;unfold bName Q1l at h;rw [getD_at hk] at h;exact X2m (by simp) (by decide) h.2.2 fun x hx=>by rw [List.mem_singleton] at hx; subst hx; exact ⟨h.1,h.2.1⟩
   have HJ:Hid (Calls Tryz.prog 113 #[u,.string ⟨#[]⟩] wb fun e w'=>e = .returned (.string (X6i t)) ∧ Ext wb w'):=by
    exact (Y3r wb _ u (t.basics.map X0m) emp hown (by rw [List.length_map]; omega) (fun h=>by rw [List.map_eq_nil_iff] at h; rw [h] at hnb; simp at hnb) hbs (by decide):Calls Tryz.prog 113 #[u,.string ⟨#[]⟩] wb fun e w'=>e = .returned (.string (X6i t)) ∧ Ext wb w')
   have hps:=X2l (xs:=t.basics.map X0m) (sep:=emp) (B:=5000000) (by rw [List.length_map]; omega) hbs (by decide)
   change (X6i t).size ≤ _ at hps;clear hbs hown;go_wp2_with fail;refine HJ.out.mono ?_;rintro e wq ⟨rfl,hxq⟩;have HXQ:=Lib.hid (hxb.trans hxq);have KQ:=Lib.hid (K1.out.ext HXQ.out);obtain ⟨pb,hpb⟩:∃ x,X6i t = x:=⟨_,rfl⟩;rw [hpb] at HPR hps ⊢;have c1:=KQ.out.cell 1;simp only [List.getElem?_toArray,List.getElem?_cons_zero,List.getElem?_cons_succ] at c1;clear hxb hxq HJ hpb;go_wp2;clear c1
   go_loopw [5,22] (fun o i wr=>∃ (k:Nat),k ≤ t.causes.length ∧ i = .int .i64 k ∧ o = .string (Q4q t pb k) ∧ Ext wz wr) (fun _ i _=>t.causes.length - (intOf i).toNat)
   case atStart=>exact ⟨0,Nat.zero_le _,rfl,rfl,HXQ.out⟩
   case round =>
    obtain ⟨k,hk,rfl,rfl,hbel⟩:=hrel
    by_cases hlt:k < t.causes.length
    · obtain ⟨_,_,he0,_,_,hcc⟩:=HT1.out.causes.opened
      cases he0;obtain ⟨b1,off,mv,rfl,hb1,e0,e1,e2,hM,hsh⟩:=hcc k hlt;replace e0:=hbel.cell e0;replace e1:=hbel.cell e1;replace e2:=hbel.cell e2;have hcp:=HV.out.cause hlt;have hls:=X7h HV.out hlt;have hcs:=Q8t HV.out pb k hk;have HSTEP:Hid (Q4q t pb (k + 1) = Q4q t pb k ++ lineS Y0g (cName t.causes k) (Q1d t.causes k :: Q0c t.causes k)):=by exact (rfl:Q4q t pb (k + 1) = _)
      obtain ⟨acc,hacc⟩:∃ x,Q4q t pb k = x:=⟨_,rfl⟩;obtain ⟨nm,hnm⟩:∃ x,cName t.causes k = x:=⟨_,rfl⟩;obtain ⟨ch,hch⟩:∃ x,Q1d t.causes k = x:=⟨_,rfl⟩;obtain ⟨ml,hml⟩:∃ x,Q0c t.causes k = x:=⟨_,rfl⟩;obtain ⟨A3,cap3,rfl,_,_,hmc⟩:=hM.opened;obtain ⟨b3,off3,rfl,_⟩:=hmc 0 (List.length_pos_iff.2 hcp.2.1);clear hmc;rw [hnm] at e0;rw [hch] at e1;rw [hml] at e2 hM;rw [hnm,hch,hml] at hcp hls HSTEP;rw [hacc] at hcs HSTEP ⊢;have HM:=Lib.hid (hM.ext hbel);have HCP:=Lib.hid hcp;have HBEL:=Lib.hid hbel;have hkI:(k:Int) < t.causes.length:=by omega
      have hml12:=hcp.2.2.1;clear hbel hcc hM hnm hch hml hacc hcp hsh;go_wp2_with (refine Q0d rfl _ _ 126 rfl Tryz.X4l rfl rfl (Blk.made _ _ _) rfl rfl ?_ ?_; (focus (intro u hu; simp only [List.mem_cons,List.not_mem_nil,or_false] at hu; rcases hu with rfl | rfl | rfl <;> rfl)); intro w7 hb7 hl7 ho7; refine halted ?_)
      have hx7:Ext wr w7:=Below.trans (Ext.box wr _) (hl7 _ (Nat.le_refl _));have HX7:=Lib.hid (HBEL.out.trans hx7);have HM7:=Lib.hid (HM.out.ext hx7);have KB:=Lib.hid hb7;have hdr:=(Ext.refl w7).drew;obtain ⟨ls,hlsx⟩:∃ x,lineS Y0g nm (ch :: ml) = x:=⟨_,rfl⟩;rw [hlsx] at hls HSTEP;have HLN:Hid (∀ (w':World) (u:Value),Q0f w' u (ch :: ml) → Calls Tryz.prog 115 #[.string ⟨#[99,97,117,115,101]⟩,.string nm,u] w' fun e w''=>e = .returned (.string ls) ∧ Ext w' w''):=by
       exact (by
        intro w' u h;rw [← hlsx];exact X7q w' Y0g nm u (ch :: ml) h (by rw [List.length_cons]; omega) (by simp) (fun x hx=>by
         rcases List.mem_cons.1 hx with rfl | hx
         · exact HCP.out.1
         · exact HCP.out.2.2.2.1 x hx) (by decide) (by have:=HCP.out.2.2.2.2; omega):∀ (w':World) (u:Value),Q0f w' u (ch :: ml) → Calls Tryz.prog 115 #[.string ⟨#[99,97,117,115,101]⟩,.string nm,u] w' fun e w''=>e = .returned (.string ls) ∧ Ext w' w'')
      have hcat:¬ 9223372036854775807 < acc.size + ls.size:=by omega
      clear hb7 hl7 ho7 e0 e1 e2 hx7 hlsx hls hcs;unfold Q3f;go_wp2;refine Flow.Q3g [.plain,.plain,.world,.plain,.world,.world,.plain,.world,.world,.world,.plain,.plain] [0,1,2,3,4,5,6,7,8,9,10,11] [[],[],[1],[],[3],[4],[],[6],[5,7],[2,8],[0,9],[0,1,2,3,4,5,6,7,8,9,10]]
       [.is 0 (fun v=>.string acc),.is 1 (fun v=>.pointer (some ⟨wr.heap.size,0,none⟩)),.is 2 (fun v=>.string nm),.is 3 (fun v=>.pointer (some ⟨wr.heap.size,1,none⟩)),.is 4 (fun v=>.int .i64 ch),⟨fun v wz=>Y1o wz (v 5) ch,fun _ _ _ hx h=>h.ext hx⟩,.is 6 (fun v=>.pointer (some ⟨wr.heap.size,2,none⟩)),.is 7 (fun v=>.slice (some ⟨b3,off3,none⟩) ml.length cap3),⟨fun v wz=>Q0f wz (v 8) (ch :: ml),fun _ _ _ hx h=>h.ext hx⟩,.is 9 (fun v=>.string ls),.is 10 (fun v=>.string (acc ++ ls)),.is 11 (fun v=>.string (acc ++ ls))]
       (by kernel_rfl) rfl (by kernel_rfl) ⟨?g0,?g1,?g2,?g3,?g4,?g5,?g6,?g7,?g8,?g9,?g10,?g11,trivial⟩ ?post
      case g0 =>
       intro v w1 hx;intro bb hbb;subst hbb;refine ⟨_,fun w=>?_,rfl⟩;go_simp
      case g1 =>
       intro v w1 hx;intro bb hbb;subst hbb;refine ⟨_,fun w=>?_,rfl⟩;go_simp
      case g2 =>
       intro v w1 hx (q1:v 1 = .pointer (some ⟨wr.heap.size,0,none⟩));intro bb hbb;subst hbb;have n0:w1.cell? ⟨wr.heap.size,0,none⟩ = some (.string nm):=(KB.out.ext (hdr.trans hx)).cell 0;intro K hK;go_simp;exact hK _ _ (Ext.refl _) rfl
      case g3 =>
       intro v w1 hx;intro bb hbb;subst hbb;refine ⟨_,fun w=>?_,rfl⟩;go_simp
      case g4 =>
       intro v w1 hx (q3:v 3 = .pointer (some ⟨wr.heap.size,1,none⟩));intro bb hbb;subst hbb;have n0:w1.cell? ⟨wr.heap.size,1,none⟩ = some (.int .i64 ch):=(KB.out.ext (hdr.trans hx)).cell 1;intro K hK;go_simp;exact hK _ _ (Ext.refl _) rfl
      case g5 =>
       intro v w1 hx (q4:v 4 = .int .i64 ch);intro bb hbb;subst hbb;intro K hK;go_simp;exact hK _ _ (Ext.box _ _) (Y1o.new _ _ _)
      case g6 =>
       intro v w1 hx;intro bb hbb;subst hbb;refine ⟨_,fun w=>?_,rfl⟩;go_simp
      case g7 =>
       intro v w1 hx (q6:v 6 = .pointer (some ⟨wr.heap.size,2,none⟩));intro bb hbb;subst hbb;have n0:w1.cell? ⟨wr.heap.size,2,none⟩ = some (.slice (some ⟨b3,off3,none⟩) ml.length cap3):=(KB.out.ext (hdr.trans hx)).cell 2;intro K hK;go_simp;exact hK _ _ (Ext.refl _) rfl
      case g8 =>
       intro v w1 hx (q5:Y1o w1 (v 5) ch) (q7:v 7 = .slice (some ⟨b3,off3,none⟩) ml.length cap3);intro bb hbb;intro K hK;obtain ⟨g5,e5,c5⟩:=q5;have o1:bb.eval (.tmp 31) = .slice (some ⟨g5,0,none⟩) 1 1:=by rw [hbb]; dsimp only; (try simp (discharger:=decide) only [eval_put_ne]); rw [Q0a (by simp only [size_put]; exact (by decide:31 < 58))]; exact e5
       have o2:bb.eval (.tmp 33) = .slice (some ⟨b3,off3,none⟩) ml.length cap3:=by rw [hbb]; dsimp only; (try simp (discharger:=decide) only [eval_put_ne]); rw [Q0a (by simp only [size_put]; exact (by decide:33 < 58))]; exact q7
       obtain ⟨A9,cap9,he9,_,_,hc9⟩:=(HM7.out.ext (hdr.trans hx)).opened;cases he9;refine Q7q (.tmp 31) (.tmp 33) 39 rfl 3 i0 (.int .i64 0) 8 Tryz.underlying39 hi hz0 hz1 hz2 rfl o1 [.int .i64 ch] rfl ?_ o2 (ml.map (Value.int .i64)) (by simp) ?_ (by have:=List.length_pos_iff.2 HCP.out.2.1; omega) (by unfold maxLen; omega) (by omega) (fun v' w' ho hg=>?_)
       · intro j u hj
         cases j with
         | zero=>injection hj with hj; subst hj; rw [addr_add]; exact c5
         | succ j=>cases hj
       · intro j u hj
         rw [List.getElem?_map] at hj;obtain ⟨y,hy,rfl⟩:=Option.map_eq_some_iff.1 hj;obtain ⟨hjl,rfl⟩:=List.getElem?_eq_some_iff.1 hy;obtain ⟨b',off',hee,hcell⟩:=hc9 j hjl;cases hee;rw [addr_add,hcell,Q8m hjl]
       · have hoo:Q0q w' w1.heap.size 3 (.int .i64) v' (ch :: ml):=by unfold Q0q; rw [List.length_cons,Nat.add_comm]; exact ho
         exact hK _ _ (X3f hg) (hoo.ints (by rw [List.length_cons]; omega))
      case g9 =>
       intro v w1 hx (q2:v 2 = .string nm) (q8:Q0f w1 (v 8) (ch :: ml));intro bb hbb;subst hbb;intro K hK;go_simp;refine Q0e (HLN.out w1 _ q8) ?_;rintro e w2 ⟨rfl,hx2⟩;exact ⟨_,rfl,hK _ _ hx2 rfl⟩
      case g10 =>
       intro v w1 hx (q0:v 0 = .string acc) (q9:v 9 = .string ls);intro bb hbb;subst hbb;refine ⟨_,fun w=>?_,rfl⟩;go_simp
      case g11 =>
       intro v w1 hx (q0:v 0 = .string acc) (q1:v 1 = .pointer (some ⟨wr.heap.size,0,none⟩)) (q2:v 2 = .string nm) (q3:v 3 = .pointer (some ⟨wr.heap.size,1,none⟩)) (q4:v 4 = .int .i64 ch) (q5:Y1o w1 (v 5) ch) (q6:v 6 = .pointer (some ⟨wr.heap.size,2,none⟩)) (q7:v 7 = .slice (some ⟨b3,off3,none⟩) ml.length cap3) (q8:Q0f w1 (v 8) (ch :: ml)) (q9:v 9 = .string ls) (q10:v 10 = .string (acc ++ ls));intro bb hbb;subst hbb;refine ⟨_,fun w=>?_,rfl⟩;go_simp
      case post =>
       intro v w1 hx (q0:v 0 = .string acc) (q1:v 1 = .pointer (some ⟨wr.heap.size,0,none⟩)) (q2:v 2 = .string nm) (q3:v 3 = .pointer (some ⟨wr.heap.size,1,none⟩)) (q4:v 4 = .int .i64 ch) (q5:Y1o w1 (v 5) ch) (q6:v 6 = .pointer (some ⟨wr.heap.size,2,none⟩)) (q7:v 7 = .slice (some ⟨b3,off3,none⟩) ml.length cap3) (q8:Q0f w1 (v 8) (ch :: ml)) (q9:v 9 = .string ls) (q10:v 10 = .string (acc ++ ls)) (q11:v 11 = .string (acc ++ ls));simp only [Flow.All,Flow.acts,Act.put];go_simp;have HX9:=Lib.hid (HX7.out.trans (hdr.trans hx));clear hx hdr q0 q1 q2 q3 q4 q5 q6 q7 q8 q9 q10;go_wp2;go_roundw
       case rel=>exact ⟨k + 1,by omega,by go_num,by rw [HSTEP.out],HX9.out⟩
       case measure=>simp [intOf]; omega
    · have e:k = t.causes.length:=by omega
      subst e;have HX6:=Lib.hid hbel;have K6:=Lib.hid (K1.out.ext hbel);have c2:=K6.out.cell 2;simp only [List.getElem?_toArray,List.getElem?_cons_zero,List.getElem?_cons_succ] at c2;have hps2:=Q8t HV.out pb t.causes.length (Nat.le_refl _);obtain ⟨pc,hpc⟩:∃ x,Q4q t pb t.causes.length = x:=⟨_,rfl⟩;rw [hpc] at HPR hps2 ⊢;clear hbel hpc;go_wp2;clear c2
      go_loopw [5,41] (fun o i wr=>∃ (k:Nat),k ≤ t.gates.length ∧ i = .int .i64 k ∧ o = .string (Q6o t pc k) ∧ Ext wz wr) (fun _ i _=>t.gates.length - (intOf i).toNat)
      case atStart=>exact ⟨0,Nat.zero_le _,rfl,rfl,HX6.out⟩
      case round =>
       obtain ⟨k,hk,rfl,rfl,hbel⟩:=hrel
       by_cases hlt:k < t.gates.length
       · obtain ⟨_,_,he0,_,_,hcc⟩:=HT1.out.gates.opened
         cases he0;obtain ⟨b1,off,mv,rfl,hb1,e0,e1,e2,hM,hsh⟩:=hcc k hlt;replace e0:=hbel.cell e0;replace e1:=hbel.cell e1;replace e2:=hbel.cell e2;have hcp:=HV.out.Z5c hlt;have hls:=X7b HV.out hlt;have hcs:=X3d HV.out pc k hk;have HSTEP:Hid (Q6o t pc (k + 1) = Q6o t pc k ++ lineS Y7q (Q2c t.gates k) (Q2x t.gates k :: Q0l t.gates k)):=by exact (rfl:Q6o t pc (k + 1) = _)
         obtain ⟨acc,hacc⟩:∃ x,Q6o t pc k = x:=⟨_,rfl⟩;obtain ⟨nm,hnm⟩:∃ x,Q2c t.gates k = x:=⟨_,rfl⟩;obtain ⟨ch,hch⟩:∃ x,Q2x t.gates k = x:=⟨_,rfl⟩;obtain ⟨ml,hml⟩:∃ x,Q0l t.gates k = x:=⟨_,rfl⟩;obtain ⟨A3,cap3,rfl,_,_,hmc⟩:=hM.opened;obtain ⟨b3,off3,rfl,_⟩:=hmc 0 (List.length_pos_iff.2 hcp.2.1);clear hmc;rw [hnm] at e0;rw [hch] at e1;rw [hml] at e2 hM;rw [hnm,hch,hml] at hcp hls HSTEP;rw [hacc] at hcs HSTEP ⊢;have HM:=Lib.hid (hM.ext hbel);have HCP:=Lib.hid hcp;have HBEL:=Lib.hid hbel;have hkI:(k:Int) < t.gates.length:=by omega
         have hml12:=hcp.2.2.1;clear hbel hcc hM hnm hch hml hacc hcp hsh;go_wp2_with (refine Q0d rfl _ _ 129 rfl Tryz.X7m rfl rfl (Blk.made _ _ _) rfl rfl ?_ ?_; (focus (intro u hu; simp only [List.mem_cons,List.not_mem_nil,or_false] at hu; rcases hu with rfl | rfl | rfl <;> rfl)); intro w7 hb7 hl7 ho7; refine halted ?_)
         have hx7:Ext wr w7:=Below.trans (Ext.box wr _) (hl7 _ (Nat.le_refl _));have HX7:=Lib.hid (HBEL.out.trans hx7);have HM7:=Lib.hid (HM.out.ext hx7);have KB:=Lib.hid hb7;have hdr:=(Ext.refl w7).drew;obtain ⟨ls,hlsx⟩:∃ x,lineS Y7q nm (ch :: ml) = x:=⟨_,rfl⟩;rw [hlsx] at hls HSTEP;have HLN:Hid (∀ (w':World) (u:Value),Q0f w' u (ch :: ml) → Calls Tryz.prog 115 #[.string ⟨#[103,97,116,101]⟩,.string nm,u] w' fun e w''=>e = .returned (.string ls) ∧ Ext w' w''):=by
          exact (by
           intro w' u h;rw [← hlsx];exact X7q w' Y7q nm u (ch :: ml) h (by rw [List.length_cons]; omega) (by simp) (fun x hx=>by
            rcases List.mem_cons.1 hx with rfl | hx
            · exact HCP.out.1
            · exact HCP.out.2.2.2.1 x hx) (by decide) (by have:=HCP.out.2.2.2.2; omega):∀ (w':World) (u:Value),Q0f w' u (ch :: ml) → Calls Tryz.prog 115 #[.string ⟨#[103,97,116,101]⟩,.string nm,u] w' fun e w''=>e = .returned (.string ls) ∧ Ext w' w'')
         have hcat:¬ 9223372036854775807 < acc.size + ls.size:=by omega
         clear hb7 hl7 ho7 e0 e1 e2 hx7 hlsx hls hcs;unfold Q3f;go_wp2;refine Flow.Q3g [.plain,.plain,.world,.plain,.world,.world,.plain,.world,.world,.world,.plain,.plain] [0,1,2,3,4,5,6,7,8,9,10,11] [[],[],[1],[],[3],[4],[],[6],[5,7],[2,8],[0,9],[0,1,2,3,4,5,6,7,8,9,10]]
          [.is 0 (fun v=>.string acc),.is 1 (fun v=>.pointer (some ⟨wr.heap.size,0,none⟩)),.is 2 (fun v=>.string nm),.is 3 (fun v=>.pointer (some ⟨wr.heap.size,1,none⟩)),.is 4 (fun v=>.int .i64 ch),⟨fun v wz=>Y1o wz (v 5) ch,fun _ _ _ hx h=>h.ext hx⟩,.is 6 (fun v=>.pointer (some ⟨wr.heap.size,2,none⟩)),.is 7 (fun v=>.slice (some ⟨b3,off3,none⟩) ml.length cap3),⟨fun v wz=>Q0f wz (v 8) (ch :: ml),fun _ _ _ hx h=>h.ext hx⟩,.is 9 (fun v=>.string ls),.is 10 (fun v=>.string (acc ++ ls)),.is 11 (fun v=>.string (acc ++ ls))]
          (by kernel_rfl) rfl (by kernel_rfl) ⟨?g0,?g1,?g2,?g3,?g4,?g5,?g6,?g7,?g8,?g9,?g10,?g11,trivial⟩ ?post
         case g0 =>
          intro v w1 hx;intro bb hbb;subst hbb;refine ⟨_,fun w=>?_,rfl⟩;go_simp
         case g1 =>
          intro v w1 hx;intro bb hbb;subst hbb;refine ⟨_,fun w=>?_,rfl⟩;go_simp
         case g2 =>
          intro v w1 hx (q1:v 1 = .pointer (some ⟨wr.heap.size,0,none⟩));intro bb hbb;subst hbb;have n0:w1.cell? ⟨wr.heap.size,0,none⟩ = some (.string nm):=(KB.out.ext (hdr.trans hx)).cell 0;intro K hK;go_simp;exact hK _ _ (Ext.refl _) rfl
         case g3 =>
          intro v w1 hx;intro bb hbb;subst hbb;refine ⟨_,fun w=>?_,rfl⟩;go_simp
         case g4 =>
          intro v w1 hx (q3:v 3 = .pointer (some ⟨wr.heap.size,1,none⟩));intro bb hbb;subst hbb;have n0:w1.cell? ⟨wr.heap.size,1,none⟩ = some (.int .i64 ch):=(KB.out.ext (hdr.trans hx)).cell 1;intro K hK;go_simp;exact hK _ _ (Ext.refl _) rfl
         case g5 =>
          intro v w1 hx (q4:v 4 = .int .i64 ch);intro bb hbb;subst hbb;intro K hK;go_simp;exact hK _ _ (Ext.box _ _) (Y1o.new _ _ _)
         case g6 =>
          intro v w1 hx;intro bb hbb;subst hbb;refine ⟨_,fun w=>?_,rfl⟩;go_simp
         case g7 =>
          intro v w1 hx (q6:v 6 = .pointer (some ⟨wr.heap.size,2,none⟩));intro bb hbb;subst hbb;have n0:w1.cell? ⟨wr.heap.size,2,none⟩ = some (.slice (some ⟨b3,off3,none⟩) ml.length cap3):=(KB.out.ext (hdr.trans hx)).cell 2;intro K hK;go_simp;exact hK _ _ (Ext.refl _) rfl
         case g8 =>
          intro v w1 hx (q5:Y1o w1 (v 5) ch) (q7:v 7 = .slice (some ⟨b3,off3,none⟩) ml.length cap3);intro bb hbb;intro K hK;obtain ⟨g5,e5,c5⟩:=q5;have o1:bb.eval (.tmp 50) = .slice (some ⟨g5,0,none⟩) 1 1:=by rw [hbb]; dsimp only; (try simp (discharger:=decide) only [eval_put_ne]); rw [Q0a (by simp only [size_put]; exact (by decide:50 < 58))]; exact e5
          have o2:bb.eval (.tmp 52) = .slice (some ⟨b3,off3,none⟩) ml.length cap3:=by rw [hbb]; dsimp only; (try simp (discharger:=decide) only [eval_put_ne]); rw [Q0a (by simp only [size_put]; exact (by decide:52 < 58))]; exact q7
          obtain ⟨A9,cap9,he9,_,_,hc9⟩:=(HM7.out.ext (hdr.trans hx)).opened;cases he9;refine Q7q (.tmp 50) (.tmp 52) 39 rfl 3 i0 (.int .i64 0) 8 Tryz.underlying39 hi hz0 hz1 hz2 rfl o1 [.int .i64 ch] rfl ?_ o2 (ml.map (Value.int .i64)) (by simp) ?_ (by have:=List.length_pos_iff.2 HCP.out.2.1; omega) (by unfold maxLen; omega) (by omega) (fun v' w' ho hg=>?_)
          · intro j u hj
            cases j with
            | zero=>injection hj with hj; subst hj; rw [addr_add]; exact c5
            | succ j=>cases hj
          · intro j u hj
            rw [List.getElem?_map] at hj;obtain ⟨y,hy,rfl⟩:=Option.map_eq_some_iff.1 hj;obtain ⟨hjl,rfl⟩:=List.getElem?_eq_some_iff.1 hy;obtain ⟨b',off',hee,hcell⟩:=hc9 j hjl;cases hee;rw [addr_add,hcell,Q8m hjl]
          · have hoo:Q0q w' w1.heap.size 3 (.int .i64) v' (ch :: ml):=by unfold Q0q; rw [List.length_cons,Nat.add_comm]; exact ho
            exact hK _ _ (X3f hg) (hoo.ints (by rw [List.length_cons]; omega))
         case g9 =>
          intro v w1 hx (q2:v 2 = .string nm) (q8:Q0f w1 (v 8) (ch :: ml));intro bb hbb;subst hbb;intro K hK;go_simp;refine Q0e (HLN.out w1 _ q8) ?_;rintro e w2 ⟨rfl,hx2⟩;exact ⟨_,rfl,hK _ _ hx2 rfl⟩
         case g10 =>
          intro v w1 hx (q0:v 0 = .string acc) (q9:v 9 = .string ls);intro bb hbb;subst hbb;refine ⟨_,fun w=>?_,rfl⟩;go_simp
         case g11 =>
          intro v w1 hx (q0:v 0 = .string acc) (q1:v 1 = .pointer (some ⟨wr.heap.size,0,none⟩)) (q2:v 2 = .string nm) (q3:v 3 = .pointer (some ⟨wr.heap.size,1,none⟩)) (q4:v 4 = .int .i64 ch) (q5:Y1o w1 (v 5) ch) (q6:v 6 = .pointer (some ⟨wr.heap.size,2,none⟩)) (q7:v 7 = .slice (some ⟨b3,off3,none⟩) ml.length cap3) (q8:Q0f w1 (v 8) (ch :: ml)) (q9:v 9 = .string ls) (q10:v 10 = .string (acc ++ ls));intro bb hbb;subst hbb;refine ⟨_,fun w=>?_,rfl⟩;go_simp
         case post =>
          intro v w1 hx (q0:v 0 = .string acc) (q1:v 1 = .pointer (some ⟨wr.heap.size,0,none⟩)) (q2:v 2 = .string nm) (q3:v 3 = .pointer (some ⟨wr.heap.size,1,none⟩)) (q4:v 4 = .int .i64 ch) (q5:Y1o w1 (v 5) ch) (q6:v 6 = .pointer (some ⟨wr.heap.size,2,none⟩)) (q7:v 7 = .slice (some ⟨b3,off3,none⟩) ml.length cap3) (q8:Q0f w1 (v 8) (ch :: ml)) (q9:v 9 = .string ls) (q10:v 10 = .string (acc ++ ls)) (q11:v 11 = .string (acc ++ ls));simp only [Flow.All,Flow.acts,Act.put];go_simp;have HX9:=Lib.hid (HX7.out.trans (hdr.trans hx));clear hx hdr q0 q1 q2 q3 q4 q5 q6 q7 q8 q9 q10;go_wp2;go_roundw
          case rel=>exact ⟨k + 1,by omega,by go_num,by rw [HSTEP.out],HX9.out⟩
          case measure=>simp [intOf]; omega
       · have e:k = t.gates.length:=by omega
         subst e;have HX8:=Lib.hid (HXX.out.trans hbel);clear hbel;go_wp2;refine bodyPost_ret (results_tmp2 Tryz.results55 _ _ _) rfl ?_;exact ⟨by rw [HPR.out,HE.out]; rfl,HX8.out⟩
 · have HPR:Hid (X2r t = emp):=by exact (by unfold X2r; rw [if_neg he]:X2r t = emp)
   have hne:(t.err != 0) = true:=by simp [he]
   clear he;go_wp2;refine bodyPost_ret (results_tmp2 Tryz.results55 _ _ _) rfl ?_;exact ⟨by rw [HPR.out]; rfl,HXX.out⟩
end Go.Proofs
