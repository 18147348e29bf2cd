/- Contract: Merge. The state of the reference's Merge: its boxes, and the slices in them. The region theorem under a relation of worlds of one's own. -/
import Derived.Test.YtgopmebjbkdfgaaGreatDoorFm46
import Derived.Test.YtgopmebjbkdfgaaGreatDoorFm29
import Derived.Test.YtgopmebjbkdfgaaGreatDoorFm43
import Derived.Test.YtgopmebjbkdfgaaGreatDoorFm41
import Derived.Test.YtgopmebjbkdfgaaGreatDoorFm45
set_option maxRecDepth 1000000
set_option maxHeartbeats 64000000
set_option linter.unusedVariables false
set_option linter.unusedSimpArgs false
set_option linter.constructorNameAsVariable false
namespace Go.Proofs
open Go.RowKit Go.Tw Go.Flow
attribute [local go_sem ↓] Q2n Q4e Q2i Q3m
theorem X1o {a b:Tree} {kind:ByteArray} (ha:Valid a) (hb:Valid b) (hk:Short kind):Q7k (Q0w a b kind):=by
 have hs {s:ByteArray} {n:Nat} (h:s.size <= n) (hn:n <= 1000):Short s:=by unfold Short; omega
 have sa:=ha.size;have sb:=hb.size;unfold Tree.size at sa sb;have ga:=ha.ng';have gb:=hb.ng';have hc:∀ i,i < (Q0w a b kind).causes.length -> Short (cName (Q0w a b kind).causes i) /\ (Q0e (Q0w a b kind).causes i).length <= 12:=by
  intro i hi;unfold cName Q0e;rw [getD_at hi];have hm:(Q0w a b kind).causes[i] ∈ a.causes ++ b.causes.map (Q3h a.basics.length b.basics.length):=List.getElem_mem hi
  rcases List.mem_append.1 hm with h | h
  . obtain ⟨k,hk,e⟩:=List.getElem_of_mem h
    rw [<- e];obtain ⟨_,_,h3,_,h5⟩:=ha.cause hk;unfold Q0e at h3;unfold cName at h5;rw [getD_at hk] at h3 h5;exact ⟨hs h5 (by decide),h3⟩
  . obtain ⟨x,hx,e⟩:=List.mem_map.1 h
    rw [<- e];obtain ⟨k,hk,rfl⟩:=List.getElem_of_mem hx;obtain ⟨_,_,h3,_,h5⟩:=hb.cause hk;unfold Q0e at h3;unfold cName at h5;rw [getD_at hk] at h3 h5;exact ⟨hs h5 (by decide),by unfold Q3h Q3d; rw [List.length_map]; exact h3⟩
 have hg:∀ i,i < (Q0w a b kind).gates.length -> Short (Q2f (Q0w a b kind).gates i) /\ (Q0i (Q0w a b kind).gates i).length <= 12:=by
  intro i hi;unfold Q2f Q0i;rw [getD_at hi];have hm:(Q0w a b kind).gates[i] ∈ (Q0w a b kind).gates:=List.getElem_mem hi;unfold Q0w at hm
  rcases List.mem_append.1 hm with h | h
  . rcases List.mem_append.1 h with h | h
    . obtain ⟨x,hx,e⟩:=List.mem_map.1 h
      obtain ⟨k,hk,rfl⟩:=List.getElem_of_mem hx;obtain ⟨_,_,h3,_,h5⟩:=ha.Y1j hk;unfold Q0i at h3;unfold Q2f at h5;rw [getD_at hk] at h3 h5;have e2:(Q0w a b kind).gates[i] = Q1y a.basics.length b.basics.length a.gates[k]:=e.symm;rw [e2];exact ⟨hs h5 (by decide),by unfold Q1y Q3d; rw [List.length_map]; exact h3⟩
    . obtain ⟨x,hx,e⟩:=List.mem_map.1 h
      obtain ⟨k,hk,rfl⟩:=List.getElem_of_mem hx;obtain ⟨_,_,h3,_,h5⟩:=hb.Y1j hk;unfold Q0i at h3;unfold Q2f at h5;rw [getD_at hk] at h3 h5;have e2:(Q0w a b kind).gates[i] = Q3k a.basics.length b.basics.length a.gates.length b.gates[k]:=e.symm;rw [e2];exact ⟨hs h5 (by decide),by unfold Q3k Q3d; rw [List.length_map]; exact h3⟩
  . have e2:=List.mem_singleton.1 h
    have e3:(Q0w a b kind).gates[i] = ⟨kind,0,[Q6n a b - b.gates.length,Q6n a b]⟩:=e2;rw [e3];exact ⟨hk,by show 2 <= 12; decide⟩
 refine ⟨fun i hi=>?_,fun i hi=>⟨(hc i hi).1,Nat.le_trans (hc i hi).2 (by decide)⟩,fun i hi=>⟨(hg i hi).1,Nat.le_trans (hg i hi).2 (by decide)⟩,?_,?_,?_,fun k hk=>Nat.le_trans (hc k hk).2 (by decide),fun k hk=>Nat.le_trans (hg k hk).2 (by decide)⟩
 . unfold bName
   rw [getD_at hi];have hm:(Q0w a b kind).basics[i] ∈ a.basics ++ b.basics:=List.getElem_mem hi
   rcases List.mem_append.1 hm with h | h
   . obtain ⟨k,hk,e⟩:=List.getElem_of_mem h
     rw [<- e];have h5:=(ha.basic hk).2.2;unfold bName at h5;rw [getD_at hk] at h5;exact hs h5 (by decide)
   . obtain ⟨k,hk,e⟩:=List.getElem_of_mem h
     rw [<- e];have h5:=(hb.basic hk).2.2;unfold bName at h5;rw [getD_at hk] at h5;exact hs h5 (by decide)
 . show (a.basics ++ b.basics).length <= 1000
   rw [List.length_append]; omega
 . show (a.causes ++ b.causes.map _).length <= 1000
   rw [List.length_append,List.length_map]; omega
 . unfold Q0w
   simp only [List.length_append,List.length_map,List.length_cons,List.length_nil];omega
theorem Y7m (w:World) (va vb:Value) (a b:Tree) (kind:ByteArray) (ha:IsTree w va a) (hb:IsTree w vb b) :
    Calls Tryz.prog 9 #[va,vb,.string kind] w fun e w'=>∃ u,e = .returned (.tuple #[u,.int .i64 (Q3t a b kind)]) /\ Q7a 33 w' u (Q8j a b kind) /\ Ext w w':=by
 obtain ⟨a1,a2,a3,rfl,h3⟩:=ha;obtain ⟨b1,b2,b3,rfl,h4⟩:=hb;obtain ⟨Aa,ca,rfl,_⟩:=h3.basics.opened;obtain ⟨Ca,cca,rfl,_⟩:=h3.causes.opened;obtain ⟨Ga,cga,rfl,_⟩:=h3.gates.opened;obtain ⟨Bbs,cbb,rfl,_⟩:=h4.basics.opened;obtain ⟨Cb,ccb,rfl,_⟩:=h4.causes.opened;obtain ⟨Gb,cgb,rfl,_⟩:=h4.gates.opened;have HTA0:=Lib.hid h3;have HTB0:=Lib.hid h4;clear h3 h4;obtain ⟨EE,hEE⟩:∃ x,Q3t a b kind = x:=⟨_,rfl⟩;obtain ⟨TT,hTT⟩:∃ x,Q8j a b kind = x:=⟨_,rfl⟩;rw [hEE,hTT];have HEE:=Lib.hid hEE;have HTT:=Lib.hid hTT;clear hEE hTT;obtain ⟨Ea,hEa⟩:∃ x,a.err = x:=⟨_,rfl⟩;obtain ⟨Eb,hEb⟩:∃ x,b.err = x:=⟨_,rfl⟩;obtain ⟨B,hB⟩:∃ x,(kind == Q8x) = x:=⟨_,rfl⟩;obtain ⟨C,hC⟩:∃ x,(kind == sOr) = x:=⟨_,rfl⟩;have hBt:(kind.toList == [97,110,100]) = B:=by
  rw [<- hB]
  by_cases h:kind = Q8x
  . rw [toList_eq X2q h,h]; rfl
  . rw [Q5c X2q h]; exact (Q3c h).symm
 have hCt:(kind.toList == [111,114]) = C:=by
  rw [<- hC]
  by_cases h:kind = sOr
  . rw [toList_eq X5w h,h]; rfl
  . rw [Q5c X5w h]; exact (Q3c h).symm
 obtain ⟨E1,hE1⟩:∃ x,Q0g [Ea,Eb,Q0m (!B && !C) 13] = x:=⟨_,rfl⟩;have HE1:Hid (Q4r a b kind = E1):=Lib.hid (by unfold Q4r; rw [hEa,hEb,hB,hC]; exact hE1)
 have HFF:Hid (∀ (w':World) (u:Value),Q0f w' u [Ea,Eb,Q0m (!B && !C) 13] -> Calls Tryz.prog 48 #[u] w' fun e w''=>e = .returned (.int .i64 E1) /\ w' = w''):=by
  exact (by intro w' u h; rw [<- hE1]; exact first_any _ _ _ h:∀ (w':World) (u:Value),Q0f w' u [Ea,Eb,Q0m (!B && !C) 13] -> Calls Tryz.prog 48 #[u] w' fun e w''=>e = .returned (.int .i64 E1) /\ w' = w'')
 have HFE:=Lib.hid hE1;have HCA:Hid (∀ (w':World) (v:Value),IsTree w' v a -> Calls Tryz.prog 49 #[v] w' fun e w''=>e = .returned (.int .i64 Ea) /\ Ext w' w''):=by
  exact (by intro w' v h; rw [<- hEa]; exact Q1w _ _ _ h:∀ (w':World) (v:Value),IsTree w' v a -> Calls Tryz.prog 49 #[v] w' fun e w''=>e = .returned (.int .i64 Ea) /\ Ext w' w'')
 have HCB:Hid (∀ (w':World) (v:Value),IsTree w' v b -> Calls Tryz.prog 49 #[v] w' fun e w''=>e = .returned (.int .i64 Eb) /\ Ext w' w''):=by
  exact (by intro w' v h; rw [<- hEb]; exact Q1w _ _ _ h:∀ (w':World) (v:Value),IsTree w' v b -> Calls Tryz.prog 49 #[v] w' fun e w''=>e = .returned (.int .i64 Eb) /\ Ext w' w'')
 have HEA:=Lib.hid hEa;have HEB:=Lib.hid hEb;have HB:=Lib.hid hB;have HC:=Lib.hid hC;clear hE1 hEa hEb hB hC;go_enter Tryz.func9,Tryz.ntmps9;go_upto_region 1 with fail;change Code.wp _ _ _ _ (((w.alloc (.cells #[.slice Aa a.basics.length ca,.slice Ca a.causes.length cca,.slice Ga a.gates.length cga] 33)).alloc (.cells #[.slice Bbs b.basics.length cbb,.slice Cb b.causes.length ccb,.slice Gb b.gates.length cgb] 33)).alloc (.cells #[.slice none 0 0,.slice none 0 0,.slice none 0 0] 33));obtain ⟨W,hWW,k0,k1,k2,HXW,eW⟩:=X2v w 33 #[.slice Aa a.basics.length ca,.slice Ca a.causes.length cca,.slice Ga a.gates.length cga] 33 #[.slice Bbs b.basics.length cbb,.slice Cb b.causes.length ccb,.slice Gb b.gates.length cgb] 33 #[.slice none 0 0,.slice none 0 0,.slice none 0 0];rw [hWW];clear hWW;have HTA:=Lib.hid (HTA0.out.ext HXW.out);have HTB:=Lib.hid (HTB0.out.ext HXW.out);have K0:=Lib.hid k0;have K1:=Lib.hid k1;have K2:=Lib.hid k2;have hdr:=(Ext.refl W).drew;clear k0 k1 k2 HTA0 HTB0;refine Flow.Q2m [.w,.w,.w,.w,.p,.p,.p,.p,.p,.p,.w,.w,.w,.p] [0,1,2,3,4,5,6,7,8,9,10,11,12,13] [[],[0],[],[1,2],[],[4],[3,5],[6],[6,7],[6,8],[6,9],[1,3,10],[10,11],[0,1,2,3,4,5,6,7,8,9,10,11,12]]
  [.c 0 (.agg #[.slice Aa a.basics.length ca,.slice Ca a.causes.length cca,.slice Ga a.gates.length cga]),.c 1 (.int .i64 Ea),.c 2 (.agg #[.slice Bbs b.basics.length cbb,.slice Cb b.causes.length ccb,.slice Gb b.gates.length cgb]),.c 3 (.int .i64 Eb),.c 4 (.string kind),.c 5 (.bool (!B)),.c 6 (.bool (!B)),.c 7 (Q1k B (.string kind)),.c 8 (Q1k B (.bool (!C))),.c 9 (.bool (!B && !C)),.c 10 (.int .i64 (Q0m (!B && !C) 13)),⟨fun v wz=>Q0f wz (v 11) [Ea,Eb,Q0m (!B && !C) 13],fun _ _ _ hx h=>h.ext hx⟩,.c 12 (.int .i64 E1),.c 13 (.int .i64 E1)]
  (by kernel_rfl) rfl (by kernel_rfl) ⟨?g0,?g1,?g2,?g3,?g4,?g5,?g6,?g7,?g8,?g9,?g10,?g11,?g12,?g13,trivial⟩ ?post
 case g0=>
  intro v w1 hx;intro bb hbb;intro K hK;have o1:bb.eval (.tmp 3) = .pointer (some ⟨w.heap.size,0,none⟩):=by rw [hbb]; dsimp only; (try simp (discharger:=decide) only [eval_put_ne]); rfl
  exact Q0h (.tmp 3) _ rfl Tryz.Q2h Tryz.Q0u o1 (K0.out.ext (hdr.trans hx)) rfl (hK _ _ (Ext.refl _) rfl)
 case g1=>
  intro v w1 hx;(repeat intro (zq:v _ = _));intro bb hbb;subst hbb;intro K hK;go_simp;refine Q0c (HCA.out w1 _ ⟨_,_,_,rfl,HTA.out.ext (hdr.trans hx)⟩) ?_;rintro e w2 ⟨rfl,hx2⟩;exact ⟨_,rfl,hK _ _ hx2 rfl⟩
 case g2=>
  intro v w1 hx;intro bb hbb;intro K hK;have o1:bb.eval (.tmp 4) = .pointer (some ⟨w.heap.size + 1,0,none⟩):=by rw [hbb]; dsimp only; (try simp (discharger:=decide) only [eval_put_ne]); rfl
  exact Q0h (.tmp 4) _ rfl Tryz.Q2h Tryz.Q0u o1 (K1.out.ext (hdr.trans hx)) rfl (hK _ _ (Ext.refl _) rfl)
 case g3=>
  intro v w1 hx;(repeat intro (zq:v _ = _));intro bb hbb;subst hbb;intro K hK;go_simp;refine Q0c (HCB.out w1 _ ⟨_,_,_,rfl,HTB.out.ext (hdr.trans hx)⟩) ?_;rintro e w2 ⟨rfl,hx2⟩;exact ⟨_,rfl,hK _ _ hx2 rfl⟩
 case g4=>
  intro v w1 hx;intro bb hbb;subst hbb;refine ⟨_,fun w=>?_,rfl⟩;go_simp
 case g5=>
  intro v w1 hx;(repeat intro (zq:v _ = _));intro bb hbb;subst hbb;refine ⟨.bool (!B),fun w=>?_,rfl⟩;cases B with
  | true=>go_simp; try rfl
  | false=>go_simp; try rfl
 case g6=>
  intro v w1 hx;(repeat intro (zq:v _ = _));intro bb hbb;subst hbb;refine ⟨_,fun w=>?_,rfl⟩;go_simp
 case g7=>
  intro v w1 hx;(repeat intro (zq:v _ = _));intro bb hbb;cases B with
  | true=>exact Flow.Q0v (d:=28) rfl rfl (by rw [hbb]; simp only [size_put]; exact (by decide:28 < 199)) (by rw [hbb]; dsimp only; (try simp (discharger:=decide) only [eval_put_ne]); rw [Q0a (by simp only [size_put]; exact (by decide:28 < 199))]; assumption) rfl
  | false =>
    refine Flow.Q0k (d:=28) rfl rfl (by rw [hbb]; simp only [size_put]; exact (by decide:28 < 199)) (by rw [hbb]; dsimp only; (try simp (discharger:=decide) only [eval_put_ne]); rw [Q0a (by simp only [size_put]; exact (by decide:28 < 199))]; assumption) ?_
    subst hbb;refine ⟨_,fun w=>?_,rfl⟩;go_simp
 case g8=>
  intro v w1 hx (q6:v 6 = _) (q7:v 7 = Q1k B (.string kind));intro bb hbb;cases B with
  | true=>exact Flow.Q0v (d:=28) rfl rfl (by rw [hbb]; simp only [size_put]; exact (by decide:28 < 199)) (by rw [hbb]; dsimp only; (try simp (discharger:=decide) only [eval_put_ne]); rw [Q0a (by simp only [size_put]; exact (by decide:28 < 199))]; exact q6) rfl
  | false =>
    replace q7:v 7 = .string kind:=q7;refine Flow.Q0k (d:=28) rfl rfl (by rw [hbb]; simp only [size_put]; exact (by decide:28 < 199)) (by rw [hbb]; dsimp only; (try simp (discharger:=decide) only [eval_put_ne]); rw [Q0a (by simp only [size_put]; exact (by decide:28 < 199))]; exact q6) ?_
    subst hbb;refine ⟨.bool (!C),fun w=>?_,rfl⟩;cases C with
    | true=>go_simp; try rfl
    | false=>go_simp; try rfl
 case g9=>
  intro v w1 hx (q6:v 6 = _) (q8:v 8 = Q1k B (.bool (!C)));intro bb hbb;subst hbb;refine ⟨.bool (!B && !C),fun w=>?_,rfl⟩;cases B with
  | true=>go_simp; try rfl
  | false=>go_simp; try rfl
 case g10=>
  intro v w1 hx;(repeat intro (zq:v _ = _));intro bb hbb;subst hbb;intro K hK;go_simp;refine Q0c (Q4w _ _ _) ?_;rintro e w2 ⟨rfl,rfl⟩;exact ⟨_,rfl,hK _ _ (Ext.refl _) rfl⟩
 case g11=>
  intro v w1 hx;(repeat intro (zq:v _ = _));intro bb hbb;subst hbb;intro K hK;go_simp;exact hK _ _ (Ext.box _ _) (Q3b (l:=[Ea,Eb,Q0m (!B && !C) 13]) (by simp))
 case g12=>
  intro v w1 hx (q10:v 10 = _) (q11:Q0f w1 (v 11) [Ea,Eb,Q0m (!B && !C) 13]);intro bb hbb;subst hbb;intro K hK;go_simp;refine Q0c (HFF.out _ _ q11) ?_;rintro e w2 ⟨rfl,rfl⟩;exact ⟨_,rfl,hK _ _ (Ext.refl _) rfl⟩
 case g13=>
  intro v w1 hx (q0:v 0 = _) (q1:v 1 = _) (q2:v 2 = _) (q3:v 3 = _) (q4:v 4 = _) (q5:v 5 = _) (q6:v 6 = _) (q7:v 7 = Q1k B (.string kind)) (q8:v 8 = Q1k B (.bool (!C))) (q9:v 9 = _) (q10:v 10 = _) _ (q12:v 12 = _);intro bb hbb;subst hbb;refine ⟨_,fun w=>?_,rfl⟩;go_simp
 case post =>
  intro v w1 hx;(iterate 7 intro (zq:v _ = _));intro (q7:v 7 = Q1k B (.string kind)) (q8:v 8 = Q1k B (.bool (!C)));(iterate 2 intro (zq:v _ = _));intro (q11:Q0f w1 (v 11) [Ea,Eb,Q0m (!B && !C) 13]);(iterate 2 intro (zq:v _ = _));simp only [Flow.All,Flow.acts,Act.put];go_simp;have HXX:=Lib.hid (hdr.trans hx);clear hx hdr q7 q8 q11 HFF HCA HCB hBt hCt;(repeat clear zq);obtain ⟨WB,rfl⟩:∃ X,X = w1:=⟨_,rfl⟩;have KR:=Lib.hid (K2.out.ext HXX.out);have hxall:=HXW.out.trans HXX.out
  by_cases hE0:E1 = 0
  . subst hE0
    have hz:=HFE.out;rw [Q1c] at hz;have hva:=Valid.of (HEA.out.trans (hz Ea (by simp)))
    have hvb:=Valid.of (HEB.out.trans (hz Eb (by simp)))
    have hkk:=hz (Q0m (!B && !C) 13) (by simp)
    have hks:Short kind:=by
     cases hb:B with
     | true =>
       have h:=HB.out;rw [hb] at h
       by_cases hk:kind = Q8x
       . rw [hk]; unfold Short; decide
       . rw [Q3c hk] at h; cases h
     | false=>cases hc:C with
       | true =>
         have h:=HC.out;rw [hc] at h
         by_cases hk:kind = sOr
         . rw [hk]; unfold Short; decide
         . rw [Q3c hk] at h; cases h
       | false=>rw [hb,hc] at hkk; cases hkk
    have hme:EE = Q1q a b:=by rw [<- HEE.out]; unfold Q3t; rw [if_pos HE1.out]
    have hmt:TT = if Q1q a b = 0 then Q0w a b kind else ⟨[],[],[]⟩:=by
     rw [<- HTT.out]; unfold Q8j; rw [HEE.out,hme]
    subst hme hmt;have sa:=hva.size;have sb:=hvb.size;unfold Tree.size at sa sb;have ga:=hva.ng';have gb:=hvb.ng';have na:=hva.nb;have nb:=hvb.nb;have hic:∀ k,k < b.causes.length -> (Q0e b.causes k).length <= 1000 /\ ∀ x ∈ Q0e b.causes k,0 <= x /\ x < 1000:=fun k hk=>by
     obtain ⟨_,_,h3,h4,_⟩:=hvb.cause hk;exact ⟨by omega,fun x hx=>by have:=h4 x hx; omega⟩
    have hia:∀ k,k < a.gates.length -> (Q0i a.gates k).length <= 1000 /\ ∀ x ∈ Q0i a.gates k,0 <= x /\ x < 1000:=fun k hk=>by
     obtain ⟨_,_,h3,h4,_⟩:=hva.Y1j hk;exact ⟨by omega,fun x hx=>by have:=h4 x hx; omega⟩
    have hin:∀ k,k < b.gates.length -> (Q0i b.gates k).length <= 1000 /\ ∀ x ∈ Q0i b.gates k,0 <= x /\ x < 1000:=fun k hk=>by
     obtain ⟨_,_,h3,h4,_⟩:=hvb.Y1j hk;exact ⟨by omega,fun x hx=>by have:=h4 x hx; omega⟩
    have hst:=X1o hva hvb hks;clear hz hkk hks hva hvb;have HIC:=Lib.hid hic;have HIA:=Lib.hid hia;have HIN:=Lib.hid hin;have HST:=Lib.hid hst;clear hic hia hin hst;have HXA:=Lib.hid hxall;clear hxall;go_upto_if 36 with fail
    go_step
    go_step
    go_step
    go_step
    exact Z7k w WB a b kind w.heap.size (w.heap.size + 1) (w.heap.size + 1 + 1) Aa Ca Ga Bbs Cb Gb ca cca cga cbb ccb cgb (fun _=>HST.out) (by omega) (by omega) (by omega) (by omega) (by omega) (by omega) (by omega) (by omega) HIC.out HIA.out HIN.out (HTA.out.ext HXX.out) (HTB.out.ext HXX.out) (K0.out.ext HXX.out) (K1.out.ext HXX.out) KR.out (by omega) HXA.out _ _ _ _ _ _ _ _ _ _ _ _ _ _ _ _ _ _ _ _ _ _ _ _ _ _ _ _ _ _ _ _ _ _ _ _ _ _ _ _ _ _ _ _ _ _ _ _ _ _ _ _ _ _ _ _ _ _ _ _ _ _ _ _ _ _ _ _ _ _ _ _ _ _ _ _ _ _ _ _ _ _ _ _ _ _ _ _ _ _ _ _ _ _ _ _ _ _ _ _ _ _ _ _ _ _ _ _ _ _ _ _ _ _ _ _ _ _ _ _ _ _ _ _ _ _ _ _ _ _ _ _ _ _ _ _ _ _ _ _ _ _ _ _ _ _ _ _ _ _ _ _ _ _ _ _ _ _ _ _ _ _ _ _ _ _ _ _ _ _ _ _ _ _ _ _ _ _ _ _ _ _ _ _ _ _ _ _ _ _ _ _ _ _ _
  . have hne:(E1 != 0) = true:=by simp [hE0]
    have hme:EE = E1:=by rw [<- HEE.out]; unfold Q3t; rw [HE1.out,if_neg hE0]
    have hmt:TT = ⟨[],[],[]⟩:=by
     rw [<- HTT.out]; unfold Q8j; rw [HEE.out,hme,if_neg hE0]
    subst hme hmt;have HXA:=Lib.hid hxall;clear hxall;go_wp2_with (refine Q0d rfl _ _ 33 rfl Tryz.Q0u rfl rfl KR.out rfl rfl ?_ ?_; (focus (exact Q3i _ _ _ _ _ _ _ _ _)); intro w11 hb11 hl11 ho11);refine bodyPost_ret (Q0n Tryz.results9 rfl hb11 Tryz.Q2h Tryz.Q0u rfl) rfl ?_;exact ⟨_,rfl,fun _ _=>Q7g _,Below.trans HXA.out (hl11 _ (by omega))⟩
end Go.Proofs
namespace Go.Proofs
open Go.RowKit Go.Tw Go.Flow
structure RG (w:World) (B0:Nat) (a b:Tree) (A Bx R X Y:Nat) (Aa Ca Ga Ab Cb Gb:Option Addr) (ca cca cga cb ccb cgb:Nat) (xb xc xg yb yc yg:Value) (mg ng:Nat -> Value):Prop where
 kA:Blk w A 26 #[.slice Aa a.basics.length ca,.slice Ca a.causes.length cca,.slice Ga a.gates.length cga]
 kB:Blk w Bx 26 #[.slice Ab b.basics.length cb,.slice Cb b.causes.length ccb,.slice Gb b.gates.length cgb]
 kR:Blk w R 26 #[.slice none 0 0,.slice none 0 0,.slice none 0 0]
 kX:Blk w X 26 #[xb,xc,xg]
 kY:Blk w Y 26 #[yb,yc,yg]
 xg:Q1d w B0 97 3 enc3 xg ((List.range a.gates.length).map (gF a mg))
 yg:Q1d w B0 97 3 enc3 yg ((List.range b.gates.length).map (gF b ng))
theorem RG.keep {T:TypeId} {w w':World} {B0:Nat} {a b:Tree} {A Bx R X Y:Nat} {Aa Ca Ga Ab Cb Gb:Option Addr} {ca cca cga cb ccb cgb:Nat} {xb xc xg yb yc yg:Value} {mg ng:Nat -> Value}
    (h:RG w B0 a b A Bx R X Y Aa Ca Ga Ab Cb Gb ca cca cga cb ccb cgb xb xc xg yb yc yg mg ng) (hT:26 ≠ T) (hG:97 ≠ T) (hk:Keep T w w'):RG w' B0 a b A Bx R X Y Aa Ca Ga Ab Cb Gb ca cca cga cb ccb cgb xb xc xg yb yc yg mg ng :=
 ⟨hk _ _ _ hT h.kA,hk _ _ _ hT h.kB,hk _ _ _ hT h.kR,hk _ _ _ hT h.kX,hk _ _ _ hT h.kY,Q0s h.xg hG hk,Q0s h.yg hG hk⟩
theorem RG.off {w w':World} {B0 O:Nat} {a b:Tree} {A Bx R X Y:Nat} {Aa Ca Ga Ab Cb Gb:Option Addr} {ca cca cga cb ccb cgb:Nat} {xb xc xg yb yc yg:Value} {mg ng:Nat -> Value} {cs:Array Value}
    (h:RG w B0 a b A Bx R X Y Aa Ca Ga Ab Cb Gb ca cca cga cb ccb cgb xb xc xg yb yc yg mg ng) (hO:Blk w O 26 cs) (h1:A ≠ O) (h2:Bx ≠ O) (h3:R ≠ O) (h4:X ≠ O) (h5:Y ≠ O) (ho:∀ k,k ≠ O -> w'.heap[k]? = w.heap[k]?):RG w' B0 a b A Bx R X Y Aa Ca Ga Ab Cb Gb ca cca cga cb ccb cgb xb xc xg yb yc yg mg ng :=
 ⟨h.kA.only h1 ho,h.kB.only h2 ho,h.kR.only h3 ho,h.kX.only h4 ho,h.kY.only h5 ho,Q0s h.xg (by decide) (Keep.store hO ho),Q0s h.yg (by decide) (Keep.store hO ho)⟩
theorem X9r {α:Type} {w:World} {base k:Nat} {e:TypeId} {enc:α -> List Value} {A:Option Addr} {n c:Nat} {l:List α} (hk:∀ x,(enc x).length = k) (h:Q1d w base e k enc (.slice A n c) l) (h0:0 < l.length) :
    ∃ ad,A = some ad /\ ∀ j u,(l.flatMap enc)[j]? = some u -> w.cell? (ad.add j) = some u:=by
 obtain ⟨g,cap,cur,hv,_,hb,_,_,_,ht⟩:=Q7m h h0;cases hv;refine ⟨_,rfl,fun j u hj=>?_⟩;have hjl:j < l.length * k:=by rw [<- Q4a hk l]; exact (List.getElem?_eq_some_iff.1 hj).1
 rw [addr_add,Nat.zero_add,hb.cell,<- hj,<- ht,List.getElem?_take,if_pos hjl,Array.getElem?_toList]
theorem Z1t {w:World} {t:Tree} {m:Nat -> Value} {l:Nat -> List Int} {n:Nat} {g:Nat -> ByteArray × Int × Value} (hg:∀ i,(g i).2.2 = m i) {B:Nat} (h:∀ i,i < n -> Q0r w B 3 (.int .i64) (m i) (l i)):∀ u ∈ ((List.range n).map g).flatMap enc3,u.oneCell' = true :=
 X9e fun x hx=>by
  obtain ⟨i,hi,rfl⟩:=List.mem_map.1 hx;rw [hg];obtain ⟨b,c,hv,_⟩:=(h i (List.mem_range.1 hi)).shape;rw [hv]; rfl
theorem X4z {w:World} {base:Nat} {e:TypeId} {v:Value} {n:Nat} {f:Nat -> ByteArray × Int × Value} (h:Q1d w base e 3 enc3 v ((List.range n).map f)) {i:Nat} (hi:i < n) :
    ∃ g cap,v = .slice (some ⟨g,0,none⟩) n cap /\ n <= cap /\ w.cell? ⟨g,i * 3 + 2,none⟩ = some (f i).2.2:=by
 obtain ⟨g,cap,cur,hv,_,hb,hc,_,_,ht⟩:=Q7m h (by simp; omega)
 rw [List.length_map,List.length_range] at hv hc;refine ⟨g,cap,hv,hc,?_⟩;rw [Q5e Q0o hb ht (i:=i) (j:=2) (by simpa using hi) (by decide)]
 simp [enc3]
def Y1e (a b:Tree):Nat -> Nat:=X1p a.causes.length a.gates.length b.causes.length b.gates.length
def Y1h (mc mg nc ng:Nat -> Value):Nat -> Nat -> Value:=X1p mc mg nc ng
def lC (t:Tree):Nat -> List Int:=Q0e t.causes
def lG (t:Tree):Nat -> List Int:=Q0i t.gates
end Go.Proofs
namespace Go.Flow
open Go.RowKit Go.Tw
structure Z0g (Rel:World -> World -> Prop) where
 D:(Nat -> Value) -> World -> Prop
 mono:∀ v w w',Rel w w' -> D v w -> D v w'
def Z0g.is {Rel:World -> World -> Prop} (j:Nat) (e:(Nat -> Value) -> Value):Z0g Rel:=⟨fun v _=>v j = e v,fun _ _ _ _ h=>h⟩
def Z0g.none {Rel:World -> World -> Prop}:Z0g Rel:=⟨fun _ _=>True,fun _ _ _ _ _=>trivial⟩
def Z8k (Rel:World -> World -> Prop) (P:Program) (pre:Nat -> List Nat) (D:Nat -> (Nat -> Value) -> World -> Prop) (E:(Nat -> Value) -> World -> World -> Prop) (k:Kind) (o:Oper) (j:Nat) (b:Act) (v:Nat -> Value) (w1 w:World):Prop :=
 match k with
 | .plain=>∃ u,(∀ w,(execOp b.eval o).run P w = .ok (.value u) w) /\ D j (mask pre j (upd v j u)) w1
 | .world=>∀ K:Value -> World -> Prop,(∀ u w',Rel w1 w' -> D j (mask pre j (upd v j u)) w' -> K u w') -> gives P K ((execOp b.eval o).run P w1)
 | .last=>∀ K:Value -> World -> Prop,(∀ u w',E (mask pre j (upd v j u)) w1 w' -> K u w') -> gives P K ((execOp b.eval o).run P w)
theorem Z6k {Rel:World -> World -> Prop} {P:Program} {ops:Array Oper} {pre:Nat -> List Nat} {D:Nat -> (Nat -> Value) -> World -> Prop} {T E:(Nat -> Value) -> World -> World -> Prop} {k:Kind} {o:Oper} {j:Nat} {b:Act} {v:Nat -> Value} {w1:World}
    (hk:k ≠ .last) (h:Guarded ops o b (Z8k Rel P pre D E k o j b v w1 w1) (Pass pre D E k j v w1 w1)):vc P ops pre Rel D T E k o j b v w1:=by
 have h':(Region.wanted o (yielded ops b.tmps) = true /\ Z8k Rel P pre D E k o j b v w1 w1) ∨ (Region.wanted o (yielded ops b.tmps) = false /\ Pass pre D E k j v w1 w1):=by
  unfold Guarded at h;cases hg:o.guard with
  | none=>rw [hg] at h; exact .inl ⟨by simp [Region.wanted,hg],h⟩
  | some g=>rw [hg] at h; exact h
 cases k with
 | plain=>exact h'.imp (fun ⟨a,u,b,c⟩=>⟨a,u,b,c⟩) id
 | world=>exact h'.imp (fun ⟨a,b⟩=>⟨a,b _ fun u w' h1 h2=>⟨h1,h2⟩⟩) id
 | last=>exact absurd rfl hk
theorem Z3l {Rel:World -> World -> Prop} {P:Program} {ops:Array Oper} {pre:Nat -> List Nat} {D:Nat -> (Nat -> Value) -> World -> Prop} {T E:(Nat -> Value) -> World -> World -> Prop} {o:Oper} {j:Nat} {b:Act} {v:Nat -> Value} {w1:World}
    (h:∀ w,T v w1 w -> Guarded ops o b (Z8k Rel P pre D E .last o j b v w1 w) (Pass pre D E .last j v w1 w)):vc P ops pre Rel D T E .last o j b v w1:=by
 intro w hT;have h:=h w hT;have h':(Region.wanted o (yielded ops b.tmps) = true /\ Z8k Rel P pre D E .last o j b v w1 w) ∨ (Region.wanted o (yielded ops b.tmps) = false /\ Pass pre D E .last j v w1 w):=by
  unfold Guarded at h;cases hg:o.guard with
  | none=>rw [hg] at h; exact .inl ⟨by simp [Region.wanted,hg],h⟩
  | some g=>rw [hg] at h; exact h
 exact h'.imp (fun ⟨a,b⟩=>⟨a,b _ fun u w' h1=>h1⟩) id
def X0z (Rel:World -> World -> Prop) (P:Program) (ops:Array Oper) (pre:Nat -> List Nat) (tail:List Nat) (w0:World) (D:Nat -> (Nat -> Value) -> World -> Prop):List ((Nat -> Value) -> World -> World -> Prop) -> ((Nat -> Value) -> World -> World -> Prop) -> List Oper -> List Kind -> List Nat -> ((Nat -> Value) -> Act) -> Prop
 | El,T,o :: l,k :: kl,j :: jl,b =>
   match k,El with
   | .last,E :: El=>(∀ v w1,Rel w0 w1 -> Facts pre D v w1 ((pre j).filter fun i=>!tail.contains i) (∀ w,T v w1 w -> ∀ bb,bb = b v -> Guarded ops o bb (Z8k Rel P pre D E .last o j bb v w1 w) (Pass pre D E .last j v w1 w))) /\
      X0z Rel P ops pre tail w0 D El (fun v w1 w=>E (mask pre j v) w1 w) l kl jl (fun v=>(b v).put o.dst (v j))
   | .last,[]=>False
   | k,El=>(∀ v w1,Rel w0 w1 -> Facts pre D v w1 (pre j) (∀ bb,bb = b v -> Guarded ops o bb (Z8k Rel P pre D (fun _ _ _=>False) k o j bb v w1 w1) (Pass pre D (fun _ _ _=>False) k j v w1 w1))) /\ X0z Rel P ops pre tail w0 D El T l kl jl (fun v=>(b v).put o.dst (v j))
 | _,_,_,_,_,_=>True
theorem Y6z {Rel:World -> World -> Prop} {P:Program} {ops:Array Oper} {pre:Nat -> List Nat} {tail:List Nat} {w0:World} {D:Nat -> (Nat -> Value) -> World -> Prop} :
    ∀ (l:List Oper) (kl:List Kind) (El:List ((Nat -> Value) -> World -> World -> Prop)) (T:(Nat -> Value) -> World -> World -> Prop) (i:Nat) (b:(Nat -> Value) -> Act),kl.length = l.length ->
     X0z Rel P ops pre tail w0 D El T l kl (List.range' i l.length) b -> ∀ j o,l[j]? = some o -> lookup kl .plain j ≠ .last -> ∀ v w1,Rel w0 w1 ->
     (∀ n ∈ pre (i + j),D n (mask pre n v) w1) -> vc P ops pre Rel D (fun _ _ _=>False) (fun _ _ _=>False) (lookup kl .plain j) o (i + j) (act (fun _=>true) v (l.take j) i (b v)) v w1
 | [],_,_,_,_,_,_,_,j,_,h,_,_,_,_,_=>by simp at h
 | o :: l,[],_,_,_,_,hk,_,_,_,_,_,_,_,_,_=>by simp at hk
 | o :: l,k :: kl,El,T,i,b,hk,h,j,o',hj,hne,v,w1,hx,hf=>by
   rw [List.length_cons,List.range'_succ] at h;cases j with
   | zero =>
     simp only [List.getElem?_cons_zero,Option.some.injEq] at hj;subst hj;simp only [lookup] at hne ⊢;cases k with
     | last=>exact absurd rfl hne
     | plain=>simp only [X0z] at h; simpa [act] using Z6k hne ((h.1 v w1 hx).out (by simpa using hf) _ rfl)
     | world=>simp only [X0z] at h; simpa [act] using Z6k hne ((h.1 v w1 hx).out (by simpa using hf) _ rfl)
   | succ j =>
     have hrest:∃ El T,X0z Rel P ops pre tail w0 D El T l kl (List.range' (i + 1) l.length) (fun v=>(b v).put o.dst (v i)):=by
      cases k with
      | last=>cases El with
        | nil=>simp only [X0z] at h
        | cons E El=>simp only [X0z] at h; exact ⟨_,_,h.2⟩
      | plain=>simp only [X0z] at h; exact ⟨_,_,h.2⟩
      | world=>simp only [X0z] at h; exact ⟨_,_,h.2⟩
     obtain ⟨El',T',h'⟩:=hrest;have:=Y6z l kl El' T' (i + 1) _ (by simpa using hk) h' j o' (by simpa using hj) (by simpa [lookup] using hne) v w1 hx (by rwa [show i + 1 + j = i + (j + 1) from by omega])
     rw [show i + 1 + j = i + (j + 1) from by omega] at this
     simpa [act,lookup] using this
theorem X0m {Rel:World -> World -> Prop} {P:Program} {ops:Array Oper} {pre:Nat -> List Nat} {tail:List Nat} {w0:World} {D:Nat -> (Nat -> Value) -> World -> Prop} (E:Nat -> (Nat -> Value) -> World -> World -> Prop) :
    ∀ (l:List Oper) (kl:List Kind) (El:List ((Nat -> Value) -> World -> World -> Prop)) (i:Nat) (b:(Nat -> Value) -> Act) (c0:Nat),kl.length = l.length -> tail.drop c0 = lasts kl i -> (∀ n,n < (lasts kl i).length -> El[n]? = some (E (c0 + n))) ->
     X0z Rel P ops pre tail w0 D El (Tail pre tail E c0) l kl (List.range' i l.length) b -> ∀ n,n < (lasts kl i).length -> ∀ j o,tail[c0 + n]? = some (i + j) -> l[j]? = some o -> ∀ v w1,Rel w0 w1 ->
     (∀ m ∈ pre (i + j),m ∉ tail -> D m (mask pre m v) w1) -> vc P ops pre Rel D (Tail pre tail E (c0 + n)) (E (c0 + n)) .last o (i + j) (act (fun _=>true) v (l.take j) i (b v)) v w1
 | [],[],_,_,_,_,_,_,_,_,n,h,_,_,_,_,_,_,_,_=>by simp [lasts] at h
 | [],_ :: _,_,_,_,_,hk,_,_,_,_,_,_,_,_,_,_,_,_,_=>by simp at hk
 | o :: l,[],_,_,_,_,hk,_,_,_,_,_,_,_,_,_,_,_,_,_=>by simp at hk
 | o :: l,k :: kl,El,i,b,c0,hk,htl,hE,h,n,hn,j,o',ht,hj,v,w1,hx,hf=>by
   rw [List.length_cons,List.range'_succ] at h;have hlow:∀ (kl:List Kind) (i:Nat),∀ x ∈ lasts kl i,i <= x:=by
    intro kl
    induction kl with
    | nil=>intro i x hx; simp [lasts] at hx
    | cons k kl ih => intro i x hx; cases k <;> simp only [lasts, List.mem_cons] at hx
                      . have:=ih _ _ hx; omega
                      . have:=ih _ _ hx; omega
                      . rcases hx with rfl | hx
                        . exact Nat.le_refl _
                        . have:=ih _ _ hx; omega
   have ht':(lasts (k :: kl) i)[n]? = some (i + j):=by rw [<- htl,List.getElem?_drop]; exact ht
   have hsk:k ≠ .last -> ∃ j',j = j' + 1 /\ (lasts kl (i + 1))[n]? = some (i + 1 + j'):=by
    intro hne;have e:lasts (k :: kl) i = lasts kl (i + 1):=by cases k <;> first | rfl | exact absurd rfl hne
    rw [e] at ht';have:=hlow kl (i + 1) _ (List.mem_of_getElem? ht');exact ⟨j - 1,by omega,by rw [ht']; congr 1; omega⟩
   cases k with
   | plain =>
     obtain ⟨j',rfl,ht2⟩:=hsk (by simp)
     simp only [X0z] at h;have:=X0m E l kl El (i + 1) _ c0 (by simpa using hk) (by simpa [lasts] using htl) (by simpa [lasts] using hE) h.2 n (by simpa [lasts] using hn) j' o' (by rw [ht]; congr 1; omega) (by simpa using hj) v w1 hx (by rwa [show i + 1 + j' = i + (j' + 1) from by omega])
     rw [show i + 1 + j' = i + (j' + 1) from by omega] at this
     simpa [act] using this
   | world =>
     obtain ⟨j',rfl,ht2⟩:=hsk (by simp)
     simp only [X0z] at h;have:=X0m E l kl El (i + 1) _ c0 (by simpa using hk) (by simpa [lasts] using htl) (by simpa [lasts] using hE) h.2 n (by simpa [lasts] using hn) j' o' (by rw [ht]; congr 1; omega) (by simpa using hj) v w1 hx (by rwa [show i + 1 + j' = i + (j' + 1) from by omega])
     rw [show i + 1 + j' = i + (j' + 1) from by omega] at this
     simpa [act] using this
   | last =>
     cases El with
     | nil=>simp only [X0z] at h
     | cons E0 El =>
       have e0:E0 = E c0:=by have:=hE 0 (by simp [lasts]); simpa using this
       subst e0;simp only [X0z] at h;have htc:tail.getD c0 0 = i:=by
        have:(tail.drop c0)[0]? = some i:=by rw [htl]; rfl
        rw [List.getElem?_drop] at this
        simpa using congrArg (fun x=>x.getD 0) this
       cases n with
       | zero =>
         have hj0:j = 0:=by
          have:(lasts (.last :: kl) i)[0]? = some i:=rfl;rw [this] at ht'; simp at ht'; omega
         subst hj0;simp only [List.getElem?_cons_zero,Option.some.injEq] at hj;subst hj;have:=Z3l (h:=fun w hT=>(h.1 v w1 hx).out (fun m hm=>by
          simp only [List.mem_filter,Bool.not_eq_true',List.contains_eq_mem,decide_eq_false_iff_not] at hm;exact hf m (by simpa using hm.1) hm.2) w hT _ rfl)
         simpa [act] using this
       | succ n =>
         have hmem:(lasts kl (i + 1))[n]? = some (i + j):=by simpa [lasts] using ht'
         have hge:=hlow kl (i + 1) _ (List.mem_of_getElem? hmem);obtain ⟨j',rfl⟩:∃ j',j = j' + 1:=⟨j - 1,by omega⟩
         have hT:(fun v w1 w=>E c0 (mask pre i v) w1 w) = Tail pre tail E (c0 + 1):=by
          funext v w1 w
          show _ = E c0 (mask pre (tail.getD c0 0) v) w1 w;rw [htc]
         have h2:=h.2;rw [hT] at h2;have:=X0m E l kl El (i + 1) _ (c0 + 1) (by simpa using hk) (by
             have e:tail.drop (c0 + 1) = (tail.drop c0).drop 1:=by rw [List.drop_drop]
             rw [e,htl]; rfl) (fun m hm=>by
             have:=hE (m + 1) (by simpa [lasts] using hm)
             rw [show c0 + 1 + m = c0 + (m + 1) from by omega]
             simpa using this) h2 n (by simpa [lasts] using hn) j' o' (by rw [show c0 + 1 + n = c0 + (n + 1) from by omega,ht]; congr 1; omega) (by simpa using hj) v w1 hx (by rwa [show i + 1 + j' = i + (j' + 1) from by omega])
         rw [show i + 1 + j' = i + (j' + 1) from by omega,show c0 + 1 + n = c0 + (n + 1) from by omega] at this
         simpa [act] using this
section
variable {P:Program} {id:Nat} {Q:Exit -> Act -> World -> Prop} {a0:Act} {w:World} {ops:List Oper}
theorem Z7j (Rel:World -> World -> Prop) (hrefl:∀ w,Rel w w) (htrans:∀ a b c,Rel a b -> Rel b c -> Rel a c) (hrsz:∀ a b,Rel a b -> a.heap.size <= b.heap.size) (kl:List Kind) (jl:List Nat) (pl:List (List Nat)) (tail:List Nat) (Dl:List (Z0g Rel)) (El:List ((Nat -> Value) -> World -> World -> Prop))
    (hm:P.follows .mixedOrders = true) (hjl:jl = List.range' 0 ops.length) (hok:okL ops pl kl tail El.length = true)
    (hvc:X0z Rel P ops.toArray (lookup pl []) tail w.drew (fun k=>(lookup Dl .none k).D) El (fun _ w1 w=>w = w1) ops kl jl (fun _=>a0))
    (hpost:∀ v w1,Rel w.drew w1 -> All (lookup pl []) (fun k=>(lookup Dl .none k).D) v w1 tail jl (∀ w',endOf (lookup pl []) v w1 w' tail El -> Q .normal (acts v ops jl a0) w')) :
    (Code.region id ops.toArray true).wp P Q a0 w:=by
 subst hjl;simp only [X9q] at hpost;simp only [okL,Bool.and_eq_true,List.all_eq_true,List.mem_range,beq_iff_eq,Bool.or_eq_true,Bool.not_eq_true',List.contains_eq_mem,decide_eq_true_eq,decide_eq_false_iff_not] at hok;obtain ⟨⟨⟨⟨⟨⟨hok,hlen⟩,htail⟩,hn⟩,hchain⟩,hlate⟩,hearly⟩:=hok;have hmem:∀ j,j ∈ tail ↔ j < ops.length /\ isLast (lookup kl .plain j) = true:=by intro j; rw [htail,List.mem_filter,List.mem_range]
 have hk:∀ j,isLast (lookup kl .plain j) = true ↔ lookup kl .plain j = .last:=by intro j; cases lookup kl .plain j <;> simp [isLast]
 have hlk:lasts kl 0 = tail:=by
  rw [X5j,htail,hlen,List.range_eq_range'];rfl
 have hEl:∀ n,n < (lasts kl 0).length -> El[n]? = some ((fun c=>(El[c]?).getD fun _ _ _=>True) (0 + n)):=by
  intro n hn';rw [hlk,<- hn] at hn';simp [hn']
 have hend:∀ v w1 w',Tail (lookup pl []) tail (fun c=>(El[c]?).getD fun _ _ _=>True) tail.length v w1 w' -> endOf (lookup pl []) v w1 w' tail El:=by
  intro v w1 w' h;have gen:∀ (tl:List Nat) (el:List ((Nat -> Value) -> World -> World -> Prop)),el.length = tl.length -> (tl = [] -> w' = w1) -> (∀ (hne:tl ≠ []),((el[tl.length - 1]?).getD fun _ _ _=>True) (mask (lookup pl []) (tl.getD (tl.length - 1) 0) v) w1 w') -> endOf (lookup pl []) v w1 w' tl el:=by
   intro tl
   induction tl with
   | nil=>intro el _ h0 _; cases el <;> exact h0 rfl
   | cons j tl ih =>
     intro el hl _ h1;cases el with
     | nil=>simp at hl
     | cons E el =>
       cases tl with
       | nil=>cases el with
         | nil=>simpa [endOf] using h1 (by simp)
         | cons _ _=>simp at hl
       | cons j' tl=>cases el with
         | nil=>simp at hl
         | cons E' el =>
           show endOf _ v w1 w' (j' :: tl) (E' :: el);exact ih _ (by simpa using hl) (fun h=>by simp at h) (fun _=>by simpa using h1 (by simp))
  refine gen tail El hn.symm.symm (fun h0=>?_) (fun hne=>?_)
  . rw [h0] at h; exact h
  . obtain ⟨m,hm⟩:∃ m,tail.length = m + 1:=⟨tail.length - 1,by have:=List.length_pos_iff.2 hne; omega⟩
    rw [hm] at h;rw [hm,Nat.add_sub_cancel];exact h
 refine X1h [] tail (lookup kl .plain) (Rel:=Rel) (D:=fun k=>(lookup Dl .none k).D) (E:=fun c=>(El[c]?).getD fun _ _ _=>True) hm (Z7x hok)
  (fun i hi=>by simpa using ((hmem _).1 (List.getElem_mem hi)).1) (fun i k hi hk hik=>by have:=hchain k hk i hik; simpa [hi,hk] using this)
  (fun j hjl hjs k hk'=>?_) (fun j hjl=>?_) (fun j hjl hjw s hs=>?_)
  hrefl htrans (fun k _ v w w' hx hd=>(lookup Dl .none k).mono v w w' hx hd) (fun j o ho hjs v w1 hx hf=>?_) (fun c hc o ho v w1 hx hf=>?_) (fun _ h=>(nomatch h)) hrsz (fun v w1 w' hx _ hf hE=>?_)
 . rcases hlate j (by simpa using hjl) with h | h
   . exact absurd ((hmem j).2 ⟨by simpa using hjl,h⟩) hjs
   . exact h k hk'
 . rw [hmem,hk]; simp at hjl; simp [hjl]
 . rcases hearly j (by simpa using hjl) with h | h
   . rw [hjw] at h; simp [X3e] at h
   . exact h s hs
 . have hjl:j < ops.length:=by simpa using (Array.getElem?_eq_some_iff.1 ho).1
   have:=Y6z ops kl El _ 0 _ hlen hvc j o (by simpa using ho) (fun h=>hjs ((hmem j).2 ⟨hjl,(hk j).2 h⟩)) v w1 hx (by simpa using hf)
   rw [Nat.zero_add] at this;have e:=Q6e v ops 0 j a0;rw [Nat.zero_add] at e
   simpa [e] using this
 . have:=X0m (fun c=>(El[c]?).getD fun _ _ _=>True) ops kl El 0 _ 0 hlen (by rw [hlk]; rfl) hEl hvc c (by rw [hlk]; exact hc) tail[c] o (by simp [hc]) (by simpa using ho) v w1 hx (by simpa using hf)
   rw [Nat.zero_add,Nat.zero_add] at this;have e:=Q6e v ops 0 tail[c] a0;rw [Nat.zero_add] at e
   simpa [e] using this
 . exact (hpost v w1 hx).out (fun k hk hks=>hf k (by simpa using hk) hks) w' (hend v w1 w' hE)
end
end Go.Flow
