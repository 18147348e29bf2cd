/- The law FaultMerges: the call returns true. The law FaultMerges: for every input the call returns true, and each argument reads afterwards as before: the row's statement, and its tied card. The listed tables of math/bits and strconv are as the program's text lays them. -/
import Derived.Test.YtgopmebjbkdfgaaGreatDoorFm35
import Derived.Test.YtgopmebjbkdfgaaGreatDoorFm52
import Derived.Test.YtgopmebjbkdfgaaGreatDoorFm47
import Derived.Test.YtgopmebjbkdfgaaGreatDoorFm41
import Derived.Test.YtgopmebjbkdfgaaGreatDoorFm13
set_option maxRecDepth 1000000
set_option maxHeartbeats 64000000
set_option linter.unusedVariables false
set_option linter.unusedSimpArgs false
set_option linter.constructorNameAsVariable false
namespace Go.Proofs
open Go.RowKit Go.Tw Go.Flow
theorem Z0o {a b:Tree} {kind:ByteArray} (h:Q0g [a.err,b.err] ≠ 0):Q3t a b kind = Q0g [a.err,b.err]:=by
 have e:Q4r a b kind = Q0g [a.err,b.err]:=by
  unfold Q4r;unfold Q0g at h ⊢
  by_cases ha:a.err = 0
  . rw [if_pos ha] at h
    unfold Q0g at h
    by_cases hb:b.err = 0
    . rw [if_pos hb] at h; exact absurd rfl h
    . rw [if_pos ha,if_pos ha]; unfold Q0g; rw [if_neg hb,if_neg hb]
  . rw [if_neg ha,if_neg ha]
 unfold Q3t;rw [e,if_neg h]
theorem X8n {a b:Tree} {kind:ByteArray} (h:Q3t a b kind ≠ 0):Q8j a b kind = ⟨[],[],[]⟩:=by unfold Q8j; rw [if_neg h]
theorem Y8x {a b:Tree} {kind:ByteArray} (h:Q3t a b kind = 0):Short kind /\ Valid a /\ Valid b /\ Q8j a b kind = Q0w a b kind:=by
 have h1:Q4r a b kind = 0:=by
  unfold Q3t at h
  by_cases e:Q4r a b kind = 0
  . exact e
  . rw [if_neg e] at h; exact absurd h e
 have hz:=h1;unfold Q4r at hz;rw [Q1c] at hz;refine ⟨?_,Valid.of (hz _ (by simp)),Valid.of (hz _ (by simp)),by unfold Q8j; rw [if_pos h]⟩
 have hk:=hz (Q0m (!(kind == Q8x) && !(kind == sOr)) 13) (by simp)
 by_cases h2:kind = Q8x
 . rw [h2]; unfold Short; decide
 . by_cases h3:kind = sOr
   . rw [h3]; unfold Short; decide
   . rw [Q3c h2,Q3c h3] at hk; cases hk
theorem Z0r {a b:Tree} {kind:ByteArray} (h:Q3t a b kind = 0):Few (Q8j a b kind):=by
 obtain ⟨h1,h2,h3,h4⟩:=Y8x h;rw [h4];exact (X1o h2 h3 h1).f
theorem X6h (w:World) (va vb:Value) (a b:Tree) (kind:ByteArray) (ha:IsTree w va a) (hb:IsTree w vb b) (hT:Tab w) :
    Calls Tryz.prog 3 #[va,vb,.string kind] w fun e w'=>e = .returned (.bool true) /\ Ext w w':=by
 obtain ⟨a1,a2,a3,rfl,h3⟩:=ha;obtain ⟨b1,b2,b3,rfl,h4⟩:=hb;obtain ⟨Aa,ca,rfl,_⟩:=h3.basics.opened;obtain ⟨Ca,cca,rfl,_⟩:=h3.causes.opened;obtain ⟨Ga,cga,rfl,_⟩:=h3.gates.opened;obtain ⟨Ab,cb,rfl,_⟩:=h4.basics.opened;obtain ⟨Cb,ccb,rfl,_⟩:=h4.causes.opened;obtain ⟨Gb,cgb,rfl,_⟩:=h4.gates.opened;have HTA0:=Lib.hid h3;have HTB0:=Lib.hid h4;have HTAB:=Lib.hid hT;clear h3 h4 hT;go_enter Tryz.func3,Tryz.ntmps3;go_wp2_with fail;change Calls _ _ _ ((w.alloc (.cells #[.slice Aa a.basics.length ca,.slice Ca a.causes.length cca,.slice Ga a.gates.length cga] 26)).alloc (.cells #[.slice Ab b.basics.length cb,.slice Cb b.causes.length ccb,.slice Gb b.gates.length cgb] 26)) _;obtain ⟨W,hWW,k0,k1,HXW,eW⟩:=Q5n w 26 #[.slice Aa a.basics.length ca,.slice Ca a.causes.length cca,.slice Ga a.gates.length cga] 26 #[.slice Ab b.basics.length cb,.slice Cb b.causes.length ccb,.slice Gb b.gates.length cgb];rw [hWW];clear hWW;obtain ⟨WB,hWB⟩:∃ X,W = X:=⟨_,rfl⟩;rw [hWB] at HXW eW k0 k1 ⊢;clear hWB;have HTA:=Lib.hid (HTA0.out.ext HXW.out);have HTB:=Lib.hid (HTB0.out.ext HXW.out);have KA:=Lib.hid k0;have KB:=Lib.hid k1;replace HTAB:=Lib.hid (HTAB.out.ext HXW.out);have HW0:=Lib.hid HXW.out;have HX:=Lib.hid (Ext.refl WB);clear k0 k1 HXW
 skip
 refine (X2r _ HTAB.out).mono ?_;rintro e w1 ⟨rfl,hx⟩;have hxx:Ext WB w1:=hx;replace HX:=Lib.hid (HX.out.trans hxx);replace HTAB:=Lib.hid (HTAB.out.ext hxx);replace KA:=Lib.hid (KA.out.ext hxx);replace KB:=Lib.hid (KB.out.ext hxx);replace HTA:=Lib.hid (HTA.out.ext hxx);replace HTB:=Lib.hid (HTB.out.ext hxx);clear hx hxx;have ka_0:=KA.out.cell 0;have ka_1:=KA.out.cell 1;have ka_2:=KA.out.cell 2;simp only [Go.Tw.gA,Go.Tw.gB,Go.Tw.gC] at ka_0 ka_1 ka_2;go_wp2_with fail;clear ka_0 ka_1 ka_2;refine (short_any _ _ a 8 ⟨_,_,_,rfl,HTA.out⟩ (by omega)).mono ?_
 rintro e w2 ⟨q,rfl,hq,hx⟩;have hxx:Ext w1 w2:=hx;replace HX:=Lib.hid (HX.out.trans hxx);replace HTAB:=Lib.hid (HTAB.out.ext hxx);replace KA:=Lib.hid (KA.out.ext hxx);replace KB:=Lib.hid (KB.out.ext hxx);replace HTA:=Lib.hid (HTA.out.ext hxx);replace HTB:=Lib.hid (HTB.out.ext hxx);clear hx hxx;cases q with
 | false =>
   clear hq;go_wp2_with fail;refine (X2r _ HTAB.out).mono ?_;rintro e w3 ⟨rfl,hx⟩;have hxx:Ext w2 w3:=hx;replace HX:=Lib.hid (HX.out.trans hxx);replace HTAB:=Lib.hid (HTAB.out.ext hxx);replace KA:=Lib.hid (KA.out.ext hxx);replace KB:=Lib.hid (KB.out.ext hxx);replace HTA:=Lib.hid (HTA.out.ext hxx);replace HTB:=Lib.hid (HTB.out.ext hxx);clear hx hxx;go_wp2;go_ret;exact ⟨rfl,HW0.out.trans HX.out⟩
 | true =>
   have HFA:=Lib.hid ((hq rfl).few (by omega))
   clear hq;have kb_0:=KB.out.cell 0;have kb_1:=KB.out.cell 1;have kb_2:=KB.out.cell 2;simp only [Go.Tw.gA,Go.Tw.gB,Go.Tw.gC] at kb_0 kb_1 kb_2;go_wp2_with fail;clear kb_0 kb_1 kb_2;refine (short_any _ _ b 8 ⟨_,_,_,rfl,HTB.out⟩ (by omega)).mono ?_
   rintro e w3 ⟨q,rfl,hq,hx⟩;have hxx:Ext w2 w3:=hx;replace HX:=Lib.hid (HX.out.trans hxx);replace HTAB:=Lib.hid (HTAB.out.ext hxx);replace KA:=Lib.hid (KA.out.ext hxx);replace KB:=Lib.hid (KB.out.ext hxx);replace HTA:=Lib.hid (HTA.out.ext hxx);replace HTB:=Lib.hid (HTB.out.ext hxx);clear hx hxx;cases q with
   | false =>
     clear hq;go_wp2_with fail;refine (X2r _ HTAB.out).mono ?_;rintro e w4 ⟨rfl,hx⟩;have hxx:Ext w3 w4:=hx;replace HX:=Lib.hid (HX.out.trans hxx);replace HTAB:=Lib.hid (HTAB.out.ext hxx);replace KA:=Lib.hid (KA.out.ext hxx);replace KB:=Lib.hid (KB.out.ext hxx);replace HTA:=Lib.hid (HTA.out.ext hxx);replace HTB:=Lib.hid (HTB.out.ext hxx);clear hx hxx;go_wp2;go_ret;exact ⟨rfl,HW0.out.trans HX.out⟩
   | true =>
     have HFB:=Lib.hid ((hq rfl).few (by omega))
     clear hq
     by_cases hk40:(40:Int) < (kind.size:Int)
     . skip
       go_wp2_with fail;refine (X2r _ HTAB.out).mono ?_;rintro e w4 ⟨rfl,hx⟩;have hxx:Ext w3 w4:=hx;replace HX:=Lib.hid (HX.out.trans hxx);replace HTAB:=Lib.hid (HTAB.out.ext hxx);replace KA:=Lib.hid (KA.out.ext hxx);replace KB:=Lib.hid (KB.out.ext hxx);replace HTA:=Lib.hid (HTA.out.ext hxx);replace HTB:=Lib.hid (HTB.out.ext hxx);clear hx hxx;go_wp2;go_ret;exact ⟨rfl,HW0.out.trans HX.out⟩
     go_upto_region 3 with fail;obtain ⟨E,hE⟩:∃ x,Q3t a b kind = x:=⟨_,rfl⟩;obtain ⟨DD,hD⟩:∃ x,Q8j a b kind = x:=⟨_,rfl⟩;have HE:=Lib.hid hE;have HD:=Lib.hid hD;have HPM:Hid (∀ (w:World) (u v:Value),IsTree w u a -> IsTree w v b -> Calls Tryz.prog 9 #[u,v,.string kind] w fun e w'=>∃ u,e = .returned (.tuple #[u,.int .i64 E]) /\ Q7a 33 w' u DD /\ Ext w w'):=by
      refine Lib.hid (fun w u v h1 h2=>?_);rw [<- hE,<- hD];exact Y7m w u v a b kind h1 h2
     clear hE hD;have hdr:=(Ext.refl w3).drew;refine Flow.Q4f [.w,.w,.w,.w,.p,.w,.p,.p,.p,.w,.last,.last] [0,1,2,3,4,5,6,7,8,9,10,11] [[],[0],[],[0,1,2],[],[0,1,2,3,4],[0,1,2,3,4,5],[0,1,2,3,4,5,6],[0,1,2,3,4,5,6],[],[0,1,2,3,4,5,6,7,9],[0,1,2,3,4,5,6,7,8,9,10]] [10,11]
      [.c 0 (.agg #[.slice Aa a.basics.length ca,.slice Ca a.causes.length cca,.slice Ga a.gates.length cga]),⟨fun v wz=>IsTree wz (v 1) a,fun _ _ _ hx h=>h.ext hx⟩,.c 2 (.agg #[.slice Ab b.basics.length cb,.slice Cb b.causes.length ccb,.slice Gb b.gates.length cgb]),⟨fun v wz=>IsTree wz (v 3) b,fun _ _ _ hx h=>h.ext hx⟩,.c 4 (.string kind),⟨fun v wz=>(fun v w'=>∃ u,v 5 = .tuple #[u,.int .i64 E] /\ Q7a 33 w' u DD) v wz,by rintro v x y hx ⟨u,h1,h2⟩; exact ⟨u,h1,h2.ext hx⟩⟩,⟨fun v wz=>(fun v w'=>∃ u,v 6 = .tuple #[u,.int .i64 E] /\ Q7a 33 w' u DD) v wz,by rintro v x y hx ⟨u,h1,h2⟩; exact ⟨u,h1,h2.ext hx⟩⟩,⟨fun v wz=>(fun v w'=>Q7a 33 w' (v 7) DD) v wz,fun _ _ _ hx h=>Q7a.ext h hx⟩,.c 8 (.int .i64 E),⟨fun v wz=>(fun v w'=>∃ g,v 9 = .pointer (some ⟨g,0,none⟩) /\ w3.heap.size <= g /\ Blk w' g 33 #[.slice none 0 0,.slice none 0 0,.slice none 0 0]) v wz,by rintro v x y hx ⟨g,h1,h2,h3⟩; exact ⟨g,h1,h2,h3.ext hx⟩⟩,.none,.none]
      [fun v w1 w'=>∃ cs,v 7 = .agg cs /\ cs.size = 3 /\ Q7a 33 w' (.agg cs) DD /\ ∃ g,v 9 = .pointer (some ⟨g,0,none⟩) /\ Blk w' g 33 cs /\ Below w3.heap.size w1 w',fun v w1 w'=>(∃ cs,v 7 = .agg cs /\ cs.size = 3 /\ Q7a 33 w' (.agg cs) DD /\ ∃ g,v 9 = .pointer (some ⟨g,0,none⟩) /\ Blk w' g 33 cs /\ Below w3.heap.size w1 w') /\ v 11 = .int .i64 E] (by kernel_rfl) rfl (by kernel_rfl) ⟨?g0,?g1,?g2,?g3,?g4,?g5,?g6,?g7,?g8,?g9,?g10,?g11,trivial⟩ ?post
     case g0=>
      intro v w1 hx;intro bb hbb;intro K2 hK2;have o1:bb.eval (.tmp 3) = .pointer (some ⟨w.heap.size,0,none⟩):=by rw [hbb]; dsimp only; (try simp (discharger:=decide) only [eval_put_ne]); rfl
      exact Q0h (.tmp 3) _ rfl Tryz.Q2k Tryz.Q0x o1 (KA.out.ext (hdr.trans hx)) rfl (hK2 _ _ (Ext.refl _) rfl)
     case g1=>
      intro v w1 hx;(repeat intro (zq:v _ = _));intro bb hbb;subst hbb;intro K hK;go_simp;refine Q0c (Z2t w1 _ a ⟨_,_,_,rfl,HTA.out.ext (hdr.trans hx)⟩ HFA.out) ?_;rintro e w2 ⟨x,rfl,h,hx2⟩;exact ⟨_,rfl,hK _ _ hx2 h⟩
     case g2=>
      intro v w1 hx;intro bb hbb;intro K2 hK2;have o1:bb.eval (.tmp 4) = .pointer (some ⟨w.heap.size + 1,0,none⟩):=by rw [hbb]; dsimp only; (try simp (discharger:=decide) only [eval_put_ne]); rfl
      exact Q0h (.tmp 4) _ rfl Tryz.Q2k Tryz.Q0x o1 (KB.out.ext (hdr.trans hx)) rfl (hK2 _ _ (Ext.refl _) rfl)
     case g3=>
      intro v w1 hx (q0:v 0 = _) _ (q2:v 2 = _);intro bb hbb;subst hbb;intro K hK;go_simp;refine Q0c (Z2t w1 _ b ⟨_,_,_,rfl,HTB.out.ext (hdr.trans hx)⟩ HFB.out) ?_;rintro e w2 ⟨x,rfl,h,hx2⟩;exact ⟨_,rfl,hK _ _ hx2 h⟩
     case g4=>
      intro v w1 hx;intro bb hbb;subst hbb;refine ⟨_,fun w=>?_,rfl⟩;go_simp
     case g5=>
      intro v w1 hx (q0:v 0 = _) (q1:IsTree w1 (v 1) a) (q2:v 2 = _) (q3:IsTree w1 (v 3) b) (q4:v 4 = _);intro bb hbb;subst hbb;intro K2 hK2;go_simp;refine Q0c (HPM.out w1 _ _ q1 q3) ?_;rintro e w2 ⟨u,rfl,hu,hx2⟩;exact ⟨_,rfl,hK2 _ _ hx2 ⟨u,rfl,hu⟩⟩
     case g6=>
      intro v w1 hx (q0:v 0 = _) _ (q2:v 2 = _) _ (q4:v 4 = _) (q5:(fun v w'=>∃ u,v 5 = .tuple #[u,.int .i64 E] /\ Q7a 33 w' u DD) v w1);intro bb hbb;obtain ⟨u,hu,ho⟩:=q5;have o1:bb.eval (.tmp 35) = .tuple #[u,.int .i64 E]:=by rw [hbb]; dsimp only; (try simp (discharger:=decide) only [eval_put_ne]); rw [Q0a (by simp only [size_put]; exact (by decide:35 < 58))]; exact hu
      exact ⟨_,fun w=>Y5l _ rfl o1 w,⟨u,rfl,ho⟩⟩
     case g7=>
      intro v w1 hx (q0:v 0 = _) _ (q2:v 2 = _) _ (q4:v 4 = _) _ (q6:(fun v w'=>∃ u,v 6 = .tuple #[u,.int .i64 E] /\ Q7a 33 w' u DD) v w1);intro bb hbb;obtain ⟨u,hu,ho⟩:=q6;have o1:bb.eval (.tmp 29) = .tuple #[u,.int .i64 E]:=by rw [hbb]; dsimp only; (try simp (discharger:=decide) only [eval_put_ne]); rw [Q0a (by simp only [size_put]; exact (by decide:29 < 58))]; exact hu
      exact ⟨u,fun w=>X1k _ 0 rfl o1 rfl w,ho⟩
     case g8=>
      intro v w1 hx (q0:v 0 = _) _ (q2:v 2 = _) _ (q4:v 4 = _) _ (q6:(fun v w'=>∃ u,v 6 = .tuple #[u,.int .i64 E] /\ Q7a 33 w' u DD) v w1);intro bb hbb;obtain ⟨u,hu,ho⟩:=q6;have o1:bb.eval (.tmp 29) = .tuple #[u,.int .i64 E]:=by rw [hbb]; dsimp only; (try simp (discharger:=decide) only [eval_put_ne]); rw [Q0a (by simp only [size_put]; exact (by decide:29 < 58))]; exact hu
      exact ⟨_,fun w=>X1k _ 1 rfl o1 rfl w,rfl⟩
     case g9=>
      intro v w1 hx;intro bb hbb;subst hbb;intro K2 hK2;go_simp;exact hK2 _ _ (Ext.box _ _) ⟨_,rfl,(hdr.trans hx).size,Blk.made _ _ _⟩
     case g10=>
      intro v w1 hx (q0:v 0 = _) _ (q2:v 2 = _) _ (q4:v 4 = _) _ _ (q7:(fun v w'=>Q7a 33 w' (v 7) DD) v w1) (q9:(fun v w'=>∃ g,v 9 = .pointer (some ⟨g,0,none⟩) /\ w3.heap.size <= g /\ Blk w' g 33 #[.slice none 0 0,.slice none 0 0,.slice none 0 0]) v w1);intro wl hT;obtain rfl:wl = w1:=hT;intro bb hbb;intro K2 hK2;obtain ⟨g,hg,hgl,hgb⟩:=q9;obtain ⟨cs,hcs,hc3,hc1⟩:=q7.is.cells;have o1:bb.eval (.tmp 7) = .pointer (some ⟨g,0,none⟩):=by rw [hbb]; dsimp only; (try simp (discharger:=decide) only [eval_put_ne]); rw [Q0a (by simp only [size_put]; exact (by decide:7 < 58))]; exact hg
      have o2:bb.eval (.tmp 36) = .agg cs:=by rw [hbb]; dsimp only; (try simp (discharger:=decide) only [eval_put_ne]); rw [Q0a (by simp only [size_put]; exact (by decide:36 < 58))]; exact hcs
      exact Q1o (.tmp 7) (.tmp 36) _ rfl Tryz.Q0u o1 o2 hgb rfl hc3 hc1 (fun vv w9 hb hl ho=>hK2 _ _ ⟨cs,hcs,hc3,by rw [<- hcs]; exact q7.keep (Keep.store hgb ho),g,hg,hb,hl _ hgl⟩)
     case g11=>
      intro v w1 hx (q0:v 0 = _) _ (q2:v 2 = _) _ (q4:v 4 = _) _ _ _ (q8:v 8 = _) _;intro wl hT;replace hT:(fun v w1 w'=>∃ cs,v 7 = .agg cs /\ cs.size = 3 /\ Q7a 33 w' (.agg cs) DD /\ ∃ g,v 9 = .pointer (some ⟨g,0,none⟩) /\ Blk w' g 33 cs /\ Below w3.heap.size w1 w') v w1 wl:=hT;intro bb hbb;intro K2 hK2;have o1:bb.eval (.tmp 37) = .int .i64 E:=by rw [hbb]; dsimp only; (try simp (discharger:=decide) only [eval_put_ne,Q5s]); rw [Q0a (by simp only [size_put]; exact (by decide:37 < 58))]; exact q8
      exact X6e (.tmp 37) rfl o1 (hK2 _ _ ⟨hT,rfl⟩)
     case post =>
      intro v w1 hx (q0:v 0 = _) (q1:IsTree w1 (v 1) a) (q2:v 2 = _) (q3:IsTree w1 (v 3) b) (q4:v 4 = _) (q5:(fun v w'=>∃ u,v 5 = .tuple #[u,.int .i64 E] /\ Q7a 33 w' u DD) v w1) (q6:(fun v w'=>∃ u,v 6 = .tuple #[u,.int .i64 E] /\ Q7a 33 w' u DD) v w1) (q7:(fun v w'=>Q7a 33 w' (v 7) DD) v w1) (q8:v 8 = _) (q9:(fun v w'=>∃ g,v 9 = .pointer (some ⟨g,0,none⟩) /\ w3.heap.size <= g /\ Blk w' g 33 #[.slice none 0 0,.slice none 0 0,.slice none 0 0]) v w1);intro w2 hE;replace hE:(fun v w1 w'=>(∃ cs,v 7 = .agg cs /\ cs.size = 3 /\ Q7a 33 w' (.agg cs) DD /\ ∃ g,v 9 = .pointer (some ⟨g,0,none⟩) /\ Blk w' g 33 cs /\ Below w3.heap.size w1 w') /\ v 11 = .int .i64 E) v w1 w2:=hE;simp only [Flow.acts,Act.put];go_simp;obtain ⟨⟨cs,h8,hz,ht6,gm,h10,hb6,hl6⟩,h12⟩:=hE;have hxx:Ext w3 w2:=Below.trans (hdr.trans hx) hl6;rw [h10];replace HX:=Lib.hid (HX.out.trans hxx);replace HTAB:=Lib.hid (HTAB.out.ext hxx);replace KA:=Lib.hid (KA.out.ext hxx);replace KB:=Lib.hid (KB.out.ext hxx);replace HTA:=Lib.hid (HTA.out.ext hxx);replace HTB:=Lib.hid (HTB.out.ext hxx);have KM:=Lib.hid (hb6);have HM:=Lib.hid (ht6);have HZ:=Lib.hid hz;clear hxx hx hdr hl6 hb6 ht6 h8 h10 h12 hz q0 q1 q2 q3 q4 q5 q6 q7 q8 q9;obtain ⟨w4,rfl⟩:∃ X,X = w2:=⟨_,rfl⟩;obtain ⟨Ea,hEa⟩:∃ x,a.err = x:=⟨_,rfl⟩;obtain ⟨Eb,hEb⟩:∃ x,b.err = x:=⟨_,rfl⟩;obtain ⟨E1,hE1⟩:∃ x,Q0g [Ea,Eb] = x:=⟨_,rfl⟩;have HFF:Hid (∀ (w':World) (u:Value),Q0f w' u [Ea,Eb] -> Calls Tryz.prog 11 #[u] w' fun e w''=>e = .returned (.int .i64 E1) /\ w' = w''):=by
       exact (by intro w' u h; rw [<- hE1]; exact Y1i _ _ _ h:∀ (w':World) (u:Value),Q0f w' u [Ea,Eb] -> Calls Tryz.prog 11 #[u] w' fun e w''=>e = .returned (.int .i64 E1) /\ w' = w'')
      have HCA:Hid (∀ (w':World) (v:Value),IsTree w' v a -> Calls Tryz.prog 12 #[v] w' fun e w''=>e = .returned (.int .i64 Ea) /\ Ext w' w''):=by
       exact (by intro w' v h; rw [<- hEa]; exact Q8r _ _ _ h:∀ (w':World) (v:Value),IsTree w' v a -> Calls Tryz.prog 12 #[v] w' fun e w''=>e = .returned (.int .i64 Ea) /\ Ext w' w'')
      have HCB:Hid (∀ (w':World) (v:Value),IsTree w' v b -> Calls Tryz.prog 12 #[v] w' fun e w''=>e = .returned (.int .i64 Eb) /\ Ext w' w''):=by
       exact (by intro w' v h; rw [<- hEb]; exact Q8r _ _ _ h:∀ (w':World) (v:Value),IsTree w' v b -> Calls Tryz.prog 12 #[v] w' fun e w''=>e = .returned (.int .i64 Eb) /\ Ext w' w'')
      have HEA:=Lib.hid hEa;have HEB:=Lib.hid hEb;have HE1:=Lib.hid hE1;clear hEa hEb hE1;go_upto_region 4 with fail;have hdr:=(Ext.refl w4).drew;refine Flow.Q2m [.w,.w,.w,.w,.w,.w,.p] [0,1,2,3,4,5,6] [[],[0],[],[1,2],[1,3],[3,4],[0,1,2,3,4,5]]
       [.c 0 (.agg #[.slice Aa a.basics.length ca,.slice Ca a.causes.length cca,.slice Ga a.gates.length cga]),.c 1 (.int .i64 Ea),.c 2 (.agg #[.slice Ab b.basics.length cb,.slice Cb b.causes.length ccb,.slice Gb b.gates.length cgb]),.c 3 (.int .i64 Eb),⟨fun v wz=>Q0f wz (v 4) [Ea,Eb],fun _ _ _ hx h=>h.ext hx⟩,.c 5 (.int .i64 E1),.c 6 (.int .i64 E1)]
       (by kernel_rfl) rfl (by kernel_rfl) ⟨?g0,?g1,?g2,?g3,?g4,?g5,?g6,trivial⟩ ?post
      case g0=>
       intro v w1 hx;intro bb hbb;intro K2 hK2;have o1:bb.eval (.tmp 3) = .pointer (some ⟨w.heap.size,0,none⟩):=by rw [hbb]; dsimp only; (try simp (discharger:=decide) only [eval_put_ne]); rfl
       exact Q0h (.tmp 3) _ rfl Tryz.Q2k Tryz.Q0x o1 (KA.out.ext (hdr.trans hx)) rfl (hK2 _ _ (Ext.refl _) rfl)
      case g1=>
       intro v w1 hx;(repeat intro (zq:v _ = _));intro bb hbb;subst hbb;intro K hK;go_simp;refine Q0c (HCA.out w1 _ ⟨_,_,_,rfl,HTA.out.ext (hdr.trans hx)⟩) ?_;rintro e w2 ⟨rfl,hx2⟩;exact ⟨_,rfl,hK _ _ hx2 rfl⟩
      case g2=>
       intro v w1 hx;intro bb hbb;intro K2 hK2;have o1:bb.eval (.tmp 4) = .pointer (some ⟨w.heap.size + 1,0,none⟩):=by rw [hbb]; dsimp only; (try simp (discharger:=decide) only [eval_put_ne]); rfl
       exact Q0h (.tmp 4) _ rfl Tryz.Q2k Tryz.Q0x o1 (KB.out.ext (hdr.trans hx)) rfl (hK2 _ _ (Ext.refl _) rfl)
      case g3=>
       intro v w1 hx;(repeat intro (zq:v _ = _));intro bb hbb;subst hbb;intro K hK;go_simp;refine Q0c (HCB.out w1 _ ⟨_,_,_,rfl,HTB.out.ext (hdr.trans hx)⟩) ?_;rintro e w2 ⟨rfl,hx2⟩;exact ⟨_,rfl,hK _ _ hx2 rfl⟩
      case g4=>
       intro v w1 hx;(repeat intro (zq:v _ = _));intro bb hbb;subst hbb;intro K hK;go_simp;exact hK _ _ (Ext.box _ _) (Q3b (l:=[Ea,Eb]) (by simp))
      case g5=>
       intro v w1 hx (q3:v 3 = _) (q4:Q0f w1 (v 4) [Ea,Eb]);intro bb hbb;subst hbb;intro K hK;go_simp;refine Q0c (HFF.out _ _ q4) ?_;rintro e w2 ⟨rfl,rfl⟩;exact ⟨_,rfl,hK _ _ (Ext.refl _) rfl⟩
      case g6=>
       intro v w1 hx (q0:v 0 = _) (q1:v 1 = _) (q2:v 2 = _) (q3:v 3 = _) _ (q5:v 5 = _);intro bb hbb;subst hbb;refine ⟨_,fun w=>?_,rfl⟩;go_simp
      case post =>
       intro v w1 hx;(iterate 4 intro (zq:v _ = _));intro (q4:Q0f w1 (v 4) [Ea,Eb]);(iterate 2 intro (zq:v _ = _));simp only [Flow.All,Flow.acts,Act.put];go_simp;have hxx:=hdr.trans hx;replace HX:=Lib.hid (HX.out.trans hxx);replace HTAB:=Lib.hid (HTAB.out.ext hxx);replace KA:=Lib.hid (KA.out.ext hxx);replace KB:=Lib.hid (KB.out.ext hxx);replace HTA:=Lib.hid (HTA.out.ext hxx);replace HTB:=Lib.hid (HTB.out.ext hxx);replace KM:=Lib.hid (KM.out.ext hxx);replace HM:=Lib.hid (HM.out.ext hxx);clear hxx hx hdr q4;(repeat clear zq);obtain ⟨w5,rfl⟩:∃ X,X = w1:=⟨_,rfl⟩;obtain ⟨m0,m1,m2,rfl⟩:=Z5s HZ.out;go_upto_if 45 with fail;obtain ⟨W,hWW,kw,HXW,eW⟩:=Q3z w5 26 #[.slice none 0 0,.slice none 0 0,.slice none 0 0];rw [hWW];clear hWW;obtain ⟨gw,hgw⟩:∃ g,w5.heap.size = g:=⟨_,rfl⟩;have hgl:WB.heap.size <= gw:=by rw [<- hgw]; exact HX.out.size
       rw [hgw] at kw ⊢;have hxx:=HXW.out;have HMF:=Lib.hid HM.out.is;have KMF:=Lib.hid KM.out;have HXF:=Lib.hid hxx;replace HX:=Lib.hid (HX.out.trans hxx);replace HTAB:=Lib.hid (HTAB.out.ext hxx);replace KA:=Lib.hid (KA.out.ext hxx);replace KB:=Lib.hid (KB.out.ext hxx);replace HTA:=Lib.hid (HTA.out.ext hxx);replace HTB:=Lib.hid (HTB.out.ext hxx);replace KM:=Lib.hid (KM.out.ext hxx);replace HM:=Lib.hid (HM.out.ext hxx);have KW:=Lib.hid (kw);clear hxx HXW eW kw;obtain ⟨w6,rfl⟩:∃ X,X = W:=⟨_,rfl⟩
       by_cases hz:E1 = 0
       . skip
         have hz2:Q0g [Ea,Eb] = 0:=HE1.out.trans hz;rw [Q1c] at hz2;have HEA0:=Lib.hid (HEA.out.trans (hz2 Ea (by simp)))
         have HEB0:=Lib.hid (HEB.out.trans (hz2 Eb (by simp)))
         have hne:(E1 == 0) = true:=by simp [hz]
         have HZ1:=Lib.hid hz;clear hz hz2;have HRM:Hid (∀ (w:World) (u v:Value),IsTree w u a -> IsTree w v b -> Calls Tryz.prog 13 #[u,v,.string kind] w fun e w'=>∃ cs,e = .returned (.tuple #[.agg cs,.int .i64 E]) /\ cs.size = 3 /\ (∀ u ∈ cs.toList,u.oneCell' = true) /\ Q7a 26 w' (.agg cs) DD /\ Ext w w'):=by
          refine Lib.hid (fun w u v h1 h2=>?_);rw [<- HE.out,<- HD.out];exact Y8z w u v a b kind h1 h2 HEA0.out HEB0.out HFA.out HFB.out
         have ka_0:=KA.out.cell 0;have ka_1:=KA.out.cell 1;have ka_2:=KA.out.cell 2;simp only [Go.Tw.gA,Go.Tw.gB,Go.Tw.gC] at ka_0 ka_1 ka_2;have kb_0:=KB.out.cell 0;have kb_1:=KB.out.cell 1;have kb_2:=KB.out.cell 2;simp only [Go.Tw.gA,Go.Tw.gB,Go.Tw.gC] at kb_0 kb_1 kb_2;go_wp2_with fail;clear ka_0 ka_1 ka_2 kb_0 kb_1 kb_2;refine (HRM.out _ _ _ ⟨_,_,_,rfl,HTA.out⟩ ⟨_,_,_,rfl,HTB.out⟩).mono ?_;rintro e w7 ⟨cs,rfl,hc3,hc1,hfirm,hx⟩;replace HX:=Lib.hid (HX.out.trans hx);replace HTAB:=Lib.hid (HTAB.out.ext hx);replace KA:=Lib.hid (KA.out.ext hx);replace KB:=Lib.hid (KB.out.ext hx);replace HTA:=Lib.hid (HTA.out.ext hx);replace HTB:=Lib.hid (HTB.out.ext hx);replace KM:=Lib.hid (KM.out.ext hx);replace HM:=Lib.hid (HM.out.ext hx);replace KW:=Lib.hid (KW.out.ext hx);replace HXF:=Lib.hid (HXF.out.trans hx);have HFI:=Lib.hid hfirm;have HC3:=Lib.hid hc3;have HC1:=Lib.hid hc1;clear hx hfirm hc3 hc1;go_upto_region 8 with (refine Q0d rfl _ _ 26 rfl Tryz.Q0x rfl rfl KW.out rfl HC3.out HC1.out ?_; intro w8 hb hl ho; refine halted ?_);have hks:=Keep.store KW.out ho;have hxf:=Below.trans HXF.out (hl _ (Nat.le_of_eq hgw));have hxs:=Below.trans HX.out (hl _ hgl);replace HX:Hid (Ext WB w8):=Lib.hid hxs;have KW2:=Lib.hid hb;have HM2:=Lib.hid (HMF.out.ext hxf);have KM2:=Lib.hid (KMF.out.ext hxf);have HW2:=Lib.hid (HFI.out.keep hks).is;clear hks hxf hxs hb hl ho HFI;unfold Q3g;go_wp2_with (first | (refine Q0j rfl _ 33 rfl Tryz.Q2h Tryz.Q0u rfl KM2.out rfl ?_) | (refine Q0j rfl _ 26 rfl Tryz.Q2k Tryz.Q0x rfl KW2.out HC3.out ?_))
         refine (X7y _ _ _ DD DD E HM2.out HW2.out (fun h=>⟨rfl,by rw [<- HD.out]; exact Z0r (HE.out.trans h)⟩) (fun h=>by rw [<- HD.out]; exact X8n (by rw [HE.out]; exact h))).mono ?_
         rintro e wz ⟨rfl,hx⟩;replace HX:=Lib.hid (HX.out.trans hx);clear hx;go_wp2;go_ret;exact ⟨rfl,HW0.out.trans HX.out⟩
       . skip
         have hne:(E1 == 0) = false:=by simp [hz]
         have he:E = E1:=by rw [<- HE.out,Z0o (by rw [HEA.out,HEB.out,HE1.out]; exact hz),HEA.out,HEB.out,HE1.out]
         subst he;have HZ1:=Lib.hid hz;clear hz;go_wp2_with (first | (refine Q0j rfl _ 33 rfl Tryz.Q2h Tryz.Q0u rfl KM.out rfl ?_) | (refine Q0j rfl _ 26 rfl Tryz.Q2k Tryz.Q0x rfl KW.out rfl ?_))
         refine (X7y _ _ _ DD ⟨[],[],[]⟩ E HM.out.is (Q7g _) (fun h=>absurd h HZ1.out) (fun h=>by rw [<- HD.out]; exact X8n (by rw [HE.out]; exact h))).mono ?_
         rintro e wz ⟨rfl,hx⟩;replace HX:=Lib.hid (HX.out.trans hx);clear hx;go_wp2;go_ret;exact ⟨rfl,HW0.out.trans HX.out⟩
end Go.Proofs
namespace Go.Proofs.YtgopmebjbkdfgaaGreatDoor
open Go.ChangeShapes Go.WideShapes Go.ChangeAt Go.RowKit Go.Tw
theorem X2s (os:Os) (started:os.Started) (H:Type) (enc:TypeId × Value -> H) :
    ReturnsInHanded {} Tryz.checked os 3 .any (fun w args=>(Rows.faultMergesSpec.pre enc Tryz.prog Tryz.f3 Rows.faultMergesRow.domain false w args /\ laidMetH Tryz.prog Y9i w) /\ sizedMet enc Tryz.prog Tryz.f3 (OpenSpec.ofChange Rows.faultMergesSpec) false w args)
     (Rows.faultMergesSpec.post enc Tryz.prog Tryz.f3 false true false false):=by
 refine returnsInHanded_of_change_and (C:=Tryz.checked) (X:=fun w _=>laidMetH Tryz.prog Y9i w) (fun _ _ _ hh h=>h.of_heap hh) own started (by kernel_rfl) Tryz.func3
  (ChangeSpec.witness_shaped (enc:=enc) (C:=Tryz.checked) (os:=os) (X:=fun w _=>laidMetH Tryz.prog Y9i w) false (World.laidAll Tryz.prog os Y9i) #[.agg #[.slice none 0 0,.slice none 0 0,.slice none 0 0],.agg #[.slice none 0 0,.slice none 0 0,.slice none 0 0],.string ⟨#[]⟩] 8 (World.laidAll_os _ _ _)
   (World.shaped_of_ZipB (by kernel_rfl) (by kernel_rfl)) (by kernel_rfl) (by kernel_rfl) (by kernel_rfl)
   (by rw [MakeChecks.laidMetH_plain _ _ _ (by kernel_rfl)]; exact laidMet_laidAll _ (by kernel_rfl) (by kernel_rfl))) ?_
 intro W base args ds gs before hval0 hW hc hsz0 hL _;have hval:∀ (j:Nat) t v,Tryz.f3.params[j]? = some t -> args[j]? = some v -> Value.okWide Tryz.prog W .any base t v:=hval0;have hsz:(DataW.weightsEach Tryz.prog (Tryz.f3.params.toList ++ Rows.faultMergesSpec.plain.varTypes Tryz.prog) (ds ++ gs)).all (· <= reachBytes) = true:=hsz0;have hW':=hW;obtain ⟨p,q,hA0,hV,rfl,hfz,hnd⟩:=hW;have hA:DataW.TrodAll enc Tryz.prog W 0 (fun _=>true) true Tryz.f3.params.toList args.toList ds p:=hA0;rw [Tryz.params3] at hA hval hsz;obtain ⟨v0,vs0,d0,ds0,p0,q0,hargs,rfl,rfl,h0,r0⟩:=trodAll_cons hA;obtain ⟨v1,vs1,d1,ds1,p1,q1,rfl,rfl,rfl,h1,r1⟩:=trodAll_cons r0;obtain ⟨v2,vs2,d2,ds2,p2,q2,rfl,rfl,rfl,h2,r2⟩:=trodAll_cons r1;obtain ⟨rfl,rfl,rfl⟩:=trodAll_nil r2;obtain rfl:args = #[v0,v1,v2]:=by cases args; simp_all
 obtain ⟨rfl,rfl⟩:=trodVars_none hV;have hfit:∀ x ∈ DataW.weightsEach Tryz.prog [26,26,9] [d0,d1,d2],x <= 140737488351232:=fun x hx=>by
  have:=List.all_eq_true.1 (show (DataW.weightsEach Tryz.prog [26,26,9] [d0,d1,d2]).all (· <= reachBytes) = true from hsz) x hx
  exact Nat.le_trans (of_decide_eq_true this) (by decide)
 obtain ⟨f0,g0⟩:=Q3y hfit;obtain ⟨f1,g1⟩:=Q3y g0;obtain ⟨f2,g2⟩:=Q3y g1;have k0:=h0;have lt0:∀ x ∈ p0,x.block < W.heap.size:=by obtain ⟨m,hm⟩:=k0; exact DataW.trod_lt m _ _ _ hm
 obtain ⟨t0,HI0⟩:=X4n (hval 0 26 v0 rfl rfl) h0 f0;have k1:=h1;have lt1:∀ x ∈ p1,x.block < W.heap.size:=by obtain ⟨m,hm⟩:=k1; exact DataW.trod_lt m _ _ _ hm
 obtain ⟨t1,HI1⟩:=X4n (hval 1 26 v1 rfl rfl) h1 f1;have k2:=h2;have lt2:∀ x ∈ p2,x.block < W.heap.size:=by obtain ⟨m,hm⟩:=k2; exact DataW.trod_lt m _ _ _ hm
 obtain ⟨s2,rfl⟩:=okWide_string Tryz.underlying9 (hval 2 9 v2 rfl rfl);clear hA0 hval0 hsz0;refine (X6h _ _ _ _ _ _ HI0 HI1 (Y4d hL)).mono fun e W' ⟨he,bel⟩=>?_;subst he;exact ⟨_,rfl,_,_,_,[],_,[],hW',trodAll_mk1 (shut_bool Tryz.underlying4 _),(trodAll_cons_mk (Below.trod laidOut (by kernel_rfl) (of_decide_eq_true (by kernel_rfl)) k0 bel lt0) (trodAll_cons_mk (Below.trod laidOut (by kernel_rfl) (of_decide_eq_true (by kernel_rfl)) k1 bel lt1) (trodAll_cons_mk (Below.trod laidOut (by kernel_rfl) (of_decide_eq_true (by kernel_rfl)) k2 bel lt2) trodAll_mk0))),rfl,bel.frame _,fun h=>by cases h⟩
theorem X3k:Rows.FaultMergesSaid :=
 OpenClaim.holds_of_wide 3 Tryz.f3 rfl rfl rfl rfl rfl rfl rfl ⟨rfl,rfl,rfl,rfl,rfl⟩ rfl rfl rfl rfl rfl (by kernel_rfl) Tryz.func3 (by kernel_rfl)
  (of_decide_eq_true (by kernel_rfl)) (by unfold Func.isWrapper; first | (rw [if_pos (by decide +kernel)]; kernel_rfl) | (rw [if_neg (by decide +kernel)]; exact ⟨rfl,rfl⟩))
  (fun os started H enc _=>X2s os started H enc)
theorem faultMerges_card:Rows.FaultMergesCardSaid :=
 Claim7.holds_tied_plain_at .later [] [.data,.data,.data] true _ false X3k (fun _ h=>by cases h) (by kernel_rfl) (fun _ h=>by cases h) faultMerges_row_tie rfl ⟨rfl,rfl⟩ (by kernel_rfl) rfl
  (fun f fn hf hfn=>by
   obtain rfl:f = 3:=Option.some.inj ((show Tryz.prog.funcNamed Rows.faultMergesRow.func = some 3 by kernel_rfl).symm.trans hf) |>.symm
   obtain rfl:fn = Tryz.f3:=(Option.some.inj (Tryz.func3.symm.trans hfn)).symm;exact ⟨by kernel_rfl,fun j t ht=>by
    rw [Tryz.params3] at ht;have hm:t ∈ [26,26,9]:=by simpa using Array.mem_of_getElem? ht
    have hall:([26,26,9].all fun u=>!Tryz.prog.wantsStandIn u) = true:=by kernel_rfl
    exact (show Tryz.prog.wantsStandIn t = false by simpa using List.all_eq_true.1 hall t hm)⟩)
  (by kernel_rfl)
#print axioms faultMerges_card
end Go.Proofs.YtgopmebjbkdfgaaGreatDoor
