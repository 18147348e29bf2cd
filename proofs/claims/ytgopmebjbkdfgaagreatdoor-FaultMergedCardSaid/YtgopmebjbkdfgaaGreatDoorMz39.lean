/- Contract: Merge. The state of the reference's Merge: its boxes, and the slices in them. The region theorem under a relation of worlds of one's own. An append that may be carried out ahead of or behind others in a region: in the room of its block, or into a new one. The walk through the reference's Merge from region 13 on: the copies, the basics. What FaultMonotone looks at in the minimal sets of a valid tree of at most seven events. Plain law. Contracts of the law's own functions: within, valid. Contracts: the reference's CheckCuts and ShortSets; the law's own function lists. Lists of lists: parts of them, copies of them that are the call's own, one appended to another. Contracts that the walks through the laws on minimal sets have in common. -/
import Derived.Test.YtgopmebjbkdfgaaGreatDoorMz38
import Derived.Test.YtgopmebjbkdfgaaGreatDoorMz24
import Derived.Test.YtgopmebjbkdfgaaGreatDoorMz35
import Derived.Test.YtgopmebjbkdfgaaGreatDoorMz31
import Derived.Test.YtgopmebjbkdfgaaGreatDoorMz37
import Derived.ArgAppend
import Derived.StillTailTactics
import Derived.BigQuiet
import Derived.Test.YtgopmebjbkdfgaaGreatDoorMz29
import Derived.Test.YtgopmebjbkdfgaaGreatDoorMz19
import Derived.Test.YtgopmebjbkdfgaaGreatDoorMz13
import Derived.Test.YtgopmebjbkdfgaaGreatDoorMz26
import Derived.Test.YtgopmebjbkdfgaaGreatDoorMz27
import Derived.Test.YtgopmebjbkdfgaaGreatDoorMz05
set_option maxRecDepth 1000000
set_option maxHeartbeats 64000000
set_option linter.unusedVariables false
set_option linter.unusedSimpArgs false
set_option linter.constructorNameAsVariable false
namespace Go.Proofs
open Go.RowKit Go.Tw Go.Flow
attribute [local go_sem ↓] Q2s Q4d Q2n Q3r
theorem Y7m {a b:Tree} {kind:ByteArray} (ha:Valid a) (hb:Valid b) (hk:Short kind):X6j (Q0k a b kind):=by
 have hs {s:ByteArray} {n:Nat} (h:s.size <= n) (hn:n <= 1000):Short s:=by unfold Short; omega
 have sa:=ha.size;have sb:=hb.size;unfold Tree.size at sa sb;have ga:=ha.ng';have gb:=hb.ng';have hc:∀ i,i < (Q0k a b kind).causes.length -> Short (cName (Q0k a b kind).causes i) /\ (Q0e (Q0k a b kind).causes i).length <= 12:=by
  intro i hi;unfold cName Q0e;rw [getD_at hi];have hm:(Q0k a b kind).causes[i] ∈ a.causes ++ b.causes.map (Q3m a.basics.length b.basics.length):=List.getElem_mem hi
  rcases List.mem_append.1 hm with h | h
  . obtain ⟨k,hk,e⟩:=List.getElem_of_mem h
    rw [<- e];obtain ⟨_,_,h3,_,h5⟩:=ha.cause hk;unfold Q0e at h3;unfold cName at h5;rw [getD_at hk] at h3 h5;exact ⟨hs h5 (by decide),h3⟩
  . obtain ⟨x,hx,e⟩:=List.mem_map.1 h
    rw [<- e];obtain ⟨k,hk,rfl⟩:=List.getElem_of_mem hx;obtain ⟨_,_,h3,_,h5⟩:=hb.cause hk;unfold Q0e at h3;unfold cName at h5;rw [getD_at hk] at h3 h5;exact ⟨hs h5 (by decide),by unfold Q3m Q2p; rw [List.length_map]; exact h3⟩
 have hg:∀ i,i < (Q0k a b kind).gates.length -> Short (Q1u (Q0k a b kind).gates i) /\ (Q0j (Q0k a b kind).gates i).length <= 12:=by
  intro i hi;unfold Q1u Q0j;rw [getD_at hi];have hm:(Q0k a b kind).gates[i] ∈ (Q0k a b kind).gates:=List.getElem_mem hi;unfold Q0k at hm
  rcases List.mem_append.1 hm with h | h
  . rcases List.mem_append.1 h with h | h
    . obtain ⟨x,hx,e⟩:=List.mem_map.1 h
      obtain ⟨k,hk,rfl⟩:=List.getElem_of_mem hx;obtain ⟨_,_,h3,_,h5⟩:=ha.Y9e hk;unfold Q0j at h3;unfold Q1u at h5;rw [getD_at hk] at h3 h5;have e2:(Q0k a b kind).gates[i] = Q2d a.basics.length b.basics.length a.gates[k]:=e.symm;rw [e2];exact ⟨hs h5 (by decide),by unfold Q2d Q2p; rw [List.length_map]; exact h3⟩
    . obtain ⟨x,hx,e⟩:=List.mem_map.1 h
      obtain ⟨k,hk,rfl⟩:=List.getElem_of_mem hx;obtain ⟨_,_,h3,_,h5⟩:=hb.Y9e hk;unfold Q0j at h3;unfold Q1u at h5;rw [getD_at hk] at h3 h5;have e2:(Q0k a b kind).gates[i] = Q3l a.basics.length b.basics.length a.gates.length b.gates[k]:=e.symm;rw [e2];exact ⟨hs h5 (by decide),by unfold Q3l Q2p; rw [List.length_map]; exact h3⟩
  . have e2:=List.mem_singleton.1 h
    have e3:(Q0k a b kind).gates[i] = ⟨kind,0,[Q4z a b - b.gates.length,Q4z a b]⟩:=e2;rw [e3];exact ⟨hk,by show 2 <= 12; decide⟩
 refine ⟨fun i hi=>?_,fun i hi=>⟨(hc i hi).1,Nat.le_trans (hc i hi).2 (by decide)⟩,fun i hi=>⟨(hg i hi).1,Nat.le_trans (hg i hi).2 (by decide)⟩,?_,?_,?_,fun k hk=>Nat.le_trans (hc k hk).2 (by decide),fun k hk=>Nat.le_trans (hg k hk).2 (by decide)⟩
 . unfold bName
   rw [getD_at hi];have hm:(Q0k a b kind).basics[i] ∈ a.basics ++ b.basics:=List.getElem_mem hi
   rcases List.mem_append.1 hm with h | h
   . obtain ⟨k,hk,e⟩:=List.getElem_of_mem h
     rw [<- e];have h5:=(ha.basic hk).2.2;unfold bName at h5;rw [getD_at hk] at h5;exact hs h5 (by decide)
   . obtain ⟨k,hk,e⟩:=List.getElem_of_mem h
     rw [<- e];have h5:=(hb.basic hk).2.2;unfold bName at h5;rw [getD_at hk] at h5;exact hs h5 (by decide)
 . show (a.basics ++ b.basics).length <= 1000
   rw [List.length_append]; omega
 . show (a.causes ++ b.causes.map _).length <= 1000
   rw [List.length_append,List.length_map]; omega
 . unfold Q0k
   simp only [List.length_append,List.length_map,List.length_cons,List.length_nil];omega
theorem Z2e (w:World) (va vb:Value) (a b:Tree) (kind:ByteArray) (ha:IsTree w va a) (hb:IsTree w vb b) :
    Calls Tryz.prog 9 #[va,vb,.string kind] w fun e w'=>∃ u,e = .returned (.tuple #[u,.int .i64 (Q8x a b kind)]) /\ Q7q 33 w' u (Y0k a b kind) /\ Ext w w':=by
 obtain ⟨a1,a2,a3,rfl,h3⟩:=ha;obtain ⟨b1,b2,b3,rfl,h4⟩:=hb;obtain ⟨Aa,ca,rfl,_⟩:=h3.basics.opened;obtain ⟨Ca,cca,rfl,_⟩:=h3.causes.opened;obtain ⟨Ga,cga,rfl,_⟩:=h3.gates.opened;obtain ⟨Bbs,cbb,rfl,_⟩:=h4.basics.opened;obtain ⟨Cb,ccb,rfl,_⟩:=h4.causes.opened;obtain ⟨Gb,cgb,rfl,_⟩:=h4.gates.opened;have HTA0:=Lib.hid h3;have HTB0:=Lib.hid h4;clear h3 h4;obtain ⟨EE,hEE⟩:∃ x,Q8x a b kind = x:=⟨_,rfl⟩;obtain ⟨TT,hTT⟩:∃ x,Y0k a b kind = x:=⟨_,rfl⟩;rw [hEE,hTT];have HEE:=Lib.hid hEE;have HTT:=Lib.hid hTT;clear hEE hTT;obtain ⟨Ea,hEa⟩:∃ x,a.err = x:=⟨_,rfl⟩;obtain ⟨Eb,hEb⟩:∃ x,b.err = x:=⟨_,rfl⟩;obtain ⟨B,hB⟩:∃ x,(kind == Q4v) = x:=⟨_,rfl⟩;obtain ⟨C,hC⟩:∃ x,(kind == sOr) = x:=⟨_,rfl⟩;have hBt:(kind.toList == [97,110,100]) = B:=by
  rw [<- hB]
  by_cases h:kind = Q4v
  . rw [toList_eq Y2t h,h]; rfl
  . rw [Q7f Y2t h]; exact (Q4n h).symm
 have hCt:(kind.toList == [111,114]) = C:=by
  rw [<- hC]
  by_cases h:kind = sOr
  . rw [toList_eq Y8g h,h]; rfl
  . rw [Q7f Y8g h]; exact (Q4n h).symm
 obtain ⟨E1,hE1⟩:∃ x,Q0i [Ea,Eb,Q0n (!B && !C) 13] = x:=⟨_,rfl⟩;have HE1:Hid (X1f a b kind = E1):=Lib.hid (by unfold X1f; rw [hEa,hEb,hB,hC]; exact hE1)
 have HFF:Hid (∀ (w':World) (u:Value),Q0f w' u [Ea,Eb,Q0n (!B && !C) 13] -> Calls Tryz.prog 48 #[u] w' fun e w''=>e = .returned (.int .i64 E1) /\ w' = w''):=by
  exact (by intro w' u h; rw [<- hE1]; exact first_any _ _ _ h:∀ (w':World) (u:Value),Q0f w' u [Ea,Eb,Q0n (!B && !C) 13] -> Calls Tryz.prog 48 #[u] w' fun e w''=>e = .returned (.int .i64 E1) /\ w' = w'')
 have HFE:=Lib.hid hE1;have HCA:Hid (∀ (w':World) (v:Value),IsTree w' v a -> Calls Tryz.prog 49 #[v] w' fun e w''=>e = .returned (.int .i64 Ea) /\ Ext w' w''):=by
  exact (by intro w' v h; rw [<- hEa]; exact Q1y _ _ _ h:∀ (w':World) (v:Value),IsTree w' v a -> Calls Tryz.prog 49 #[v] w' fun e w''=>e = .returned (.int .i64 Ea) /\ Ext w' w'')
 have HCB:Hid (∀ (w':World) (v:Value),IsTree w' v b -> Calls Tryz.prog 49 #[v] w' fun e w''=>e = .returned (.int .i64 Eb) /\ Ext w' w''):=by
  exact (by intro w' v h; rw [<- hEb]; exact Q1y _ _ _ h:∀ (w':World) (v:Value),IsTree w' v b -> Calls Tryz.prog 49 #[v] w' fun e w''=>e = .returned (.int .i64 Eb) /\ Ext w' w'')
 have HEA:=Lib.hid hEa;have HEB:=Lib.hid hEb;have HB:=Lib.hid hB;have HC:=Lib.hid hC;clear hE1 hEa hEb hB hC;go_enter Tryz.func9,Tryz.ntmps9;go_upto_region 1 with fail;change Code.wp _ _ _ _ (((w.alloc (.cells #[.slice Aa a.basics.length ca,.slice Ca a.causes.length cca,.slice Ga a.gates.length cga] 33)).alloc (.cells #[.slice Bbs b.basics.length cbb,.slice Cb b.causes.length ccb,.slice Gb b.gates.length cgb] 33)).alloc (.cells #[.slice none 0 0,.slice none 0 0,.slice none 0 0] 33));obtain ⟨W,hWW,k0,k1,k2,HXW,eW⟩:=X6a w 33 #[.slice Aa a.basics.length ca,.slice Ca a.causes.length cca,.slice Ga a.gates.length cga] 33 #[.slice Bbs b.basics.length cbb,.slice Cb b.causes.length ccb,.slice Gb b.gates.length cgb] 33 #[.slice none 0 0,.slice none 0 0,.slice none 0 0];rw [hWW];clear hWW;have HTA:=Lib.hid (HTA0.out.ext HXW.out);have HTB:=Lib.hid (HTB0.out.ext HXW.out);have K0:=Lib.hid k0;have K1:=Lib.hid k1;have K2:=Lib.hid k2;have hdr:=(Ext.refl W).drew;clear k0 k1 k2 HTA0 HTB0;refine Flow.Q3o [.w,.w,.w,.w,.p,.p,.p,.p,.p,.p,.w,.w,.w,.p] [0,1,2,3,4,5,6,7,8,9,10,11,12,13] [[],[0],[],[1,2],[],[4],[3,5],[6],[6,7],[6,8],[6,9],[1,3,10],[10,11],[0,1,2,3,4,5,6,7,8,9,10,11,12]]
  [.c 0 (.agg #[.slice Aa a.basics.length ca,.slice Ca a.causes.length cca,.slice Ga a.gates.length cga]),.c 1 (.int .i64 Ea),.c 2 (.agg #[.slice Bbs b.basics.length cbb,.slice Cb b.causes.length ccb,.slice Gb b.gates.length cgb]),.c 3 (.int .i64 Eb),.c 4 (.string kind),.c 5 (.bool (!B)),.c 6 (.bool (!B)),.c 7 (Q1z B (.string kind)),.c 8 (Q1z B (.bool (!C))),.c 9 (.bool (!B && !C)),.c 10 (.int .i64 (Q0n (!B && !C) 13)),⟨fun v wz=>Q0f wz (v 11) [Ea,Eb,Q0n (!B && !C) 13],fun _ _ _ hx h=>h.ext hx⟩,.c 12 (.int .i64 E1),.c 13 (.int .i64 E1)]
  (by kernel_rfl) rfl (by kernel_rfl) ⟨?g0,?g1,?g2,?g3,?g4,?g5,?g6,?g7,?g8,?g9,?g10,?g11,?g12,?g13,trivial⟩ ?post
 case g0=>
  intro v w1 hx;intro bb hbb;intro K hK;have o1:bb.eval (.tmp 3) = .pointer (some ⟨w.heap.size,0,none⟩):=by rw [hbb]; dsimp only; (try simp (discharger:=decide) only [eval_put_ne]); rfl
  exact Q0m (.tmp 3) _ rfl Tryz.Q2y Tryz.Q0x o1 (K0.out.ext (hdr.trans hx)) rfl (hK _ _ (Ext.refl _) rfl)
 case g1=>
  intro v w1 hx;(repeat intro (zq:v _ = _));intro bb hbb;subst hbb;intro K hK;go_simp;refine Q0d (HCA.out w1 _ ⟨_,_,_,rfl,HTA.out.ext (hdr.trans hx)⟩) ?_;rintro e w2 ⟨rfl,hx2⟩;exact ⟨_,rfl,hK _ _ hx2 rfl⟩
 case g2=>
  intro v w1 hx;intro bb hbb;intro K hK;have o1:bb.eval (.tmp 4) = .pointer (some ⟨w.heap.size + 1,0,none⟩):=by rw [hbb]; dsimp only; (try simp (discharger:=decide) only [eval_put_ne]); rfl
  exact Q0m (.tmp 4) _ rfl Tryz.Q2y Tryz.Q0x o1 (K1.out.ext (hdr.trans hx)) rfl (hK _ _ (Ext.refl _) rfl)
 case g3=>
  intro v w1 hx;(repeat intro (zq:v _ = _));intro bb hbb;subst hbb;intro K hK;go_simp;refine Q0d (HCB.out w1 _ ⟨_,_,_,rfl,HTB.out.ext (hdr.trans hx)⟩) ?_;rintro e w2 ⟨rfl,hx2⟩;exact ⟨_,rfl,hK _ _ hx2 rfl⟩
 case g4=>
  intro v w1 hx;intro bb hbb;subst hbb;refine ⟨_,fun w=>?_,rfl⟩;go_simp
 case g5=>
  intro v w1 hx;(repeat intro (zq:v _ = _));intro bb hbb;subst hbb;refine ⟨.bool (!B),fun w=>?_,rfl⟩;cases B with
  | true=>go_simp; try rfl
  | false=>go_simp; try rfl
 case g6=>
  intro v w1 hx;(repeat intro (zq:v _ = _));intro bb hbb;subst hbb;refine ⟨_,fun w=>?_,rfl⟩;go_simp
 case g7=>
  intro v w1 hx;(repeat intro (zq:v _ = _));intro bb hbb;cases B with
  | true=>exact Flow.Q1h (d:=28) rfl rfl (by rw [hbb]; simp only [size_put]; exact (by decide:28 < 199)) (by rw [hbb]; dsimp only; (try simp (discharger:=decide) only [eval_put_ne]); rw [Q0a (by simp only [size_put]; exact (by decide:28 < 199))]; assumption) rfl
  | false =>
    refine Flow.Q0h (d:=28) rfl rfl (by rw [hbb]; simp only [size_put]; exact (by decide:28 < 199)) (by rw [hbb]; dsimp only; (try simp (discharger:=decide) only [eval_put_ne]); rw [Q0a (by simp only [size_put]; exact (by decide:28 < 199))]; assumption) ?_
    subst hbb;refine ⟨_,fun w=>?_,rfl⟩;go_simp
 case g8=>
  intro v w1 hx (q6:v 6 = _) (q7:v 7 = Q1z B (.string kind));intro bb hbb;cases B with
  | true=>exact Flow.Q1h (d:=28) rfl rfl (by rw [hbb]; simp only [size_put]; exact (by decide:28 < 199)) (by rw [hbb]; dsimp only; (try simp (discharger:=decide) only [eval_put_ne]); rw [Q0a (by simp only [size_put]; exact (by decide:28 < 199))]; exact q6) rfl
  | false =>
    replace q7:v 7 = .string kind:=q7;refine Flow.Q0h (d:=28) rfl rfl (by rw [hbb]; simp only [size_put]; exact (by decide:28 < 199)) (by rw [hbb]; dsimp only; (try simp (discharger:=decide) only [eval_put_ne]); rw [Q0a (by simp only [size_put]; exact (by decide:28 < 199))]; exact q6) ?_
    subst hbb;refine ⟨.bool (!C),fun w=>?_,rfl⟩;cases C with
    | true=>go_simp; try rfl
    | false=>go_simp; try rfl
 case g9=>
  intro v w1 hx (q6:v 6 = _) (q8:v 8 = Q1z B (.bool (!C)));intro bb hbb;subst hbb;refine ⟨.bool (!B && !C),fun w=>?_,rfl⟩;cases B with
  | true=>go_simp; try rfl
  | false=>go_simp; try rfl
 case g10=>
  intro v w1 hx;(repeat intro (zq:v _ = _));intro bb hbb;subst hbb;intro K hK;go_simp;refine Q0d (Q4w _ _ _) ?_;rintro e w2 ⟨rfl,rfl⟩;exact ⟨_,rfl,hK _ _ (Ext.refl _) rfl⟩
 case g11=>
  intro v w1 hx;(repeat intro (zq:v _ = _));intro bb hbb;subst hbb;intro K hK;go_simp;exact hK _ _ (Ext.box _ _) (Q3e (l:=[Ea,Eb,Q0n (!B && !C) 13]) (by simp))
 case g12=>
  intro v w1 hx (q10:v 10 = _) (q11:Q0f w1 (v 11) [Ea,Eb,Q0n (!B && !C) 13]);intro bb hbb;subst hbb;intro K hK;go_simp;refine Q0d (HFF.out _ _ q11) ?_;rintro e w2 ⟨rfl,rfl⟩;exact ⟨_,rfl,hK _ _ (Ext.refl _) rfl⟩
 case g13=>
  intro v w1 hx (q0:v 0 = _) (q1:v 1 = _) (q2:v 2 = _) (q3:v 3 = _) (q4:v 4 = _) (q5:v 5 = _) (q6:v 6 = _) (q7:v 7 = Q1z B (.string kind)) (q8:v 8 = Q1z B (.bool (!C))) (q9:v 9 = _) (q10:v 10 = _) _ (q12:v 12 = _);intro bb hbb;subst hbb;refine ⟨_,fun w=>?_,rfl⟩;go_simp
 case post =>
  intro v w1 hx;(iterate 7 intro (zq:v _ = _));intro (q7:v 7 = Q1z B (.string kind)) (q8:v 8 = Q1z B (.bool (!C)));(iterate 2 intro (zq:v _ = _));intro (q11:Q0f w1 (v 11) [Ea,Eb,Q0n (!B && !C) 13]);(iterate 2 intro (zq:v _ = _));simp only [Flow.All,Flow.acts,Act.put];go_simp;have HXX:=Lib.hid (hdr.trans hx);clear hx hdr q7 q8 q11 HFF HCA HCB hBt hCt;(repeat clear zq);obtain ⟨WB,rfl⟩:∃ X,X = w1:=⟨_,rfl⟩;have KR:=Lib.hid (K2.out.ext HXX.out);have hxall:=HXW.out.trans HXX.out
  by_cases hE0:E1 = 0
  . subst hE0
    have hz:=HFE.out;rw [Q0w] at hz;have hva:=Valid.of (HEA.out.trans (hz Ea (by simp)))
    have hvb:=Valid.of (HEB.out.trans (hz Eb (by simp)))
    have hkk:=hz (Q0n (!B && !C) 13) (by simp)
    have hks:Short kind:=by
     cases hb:B with
     | true =>
       have h:=HB.out;rw [hb] at h
       by_cases hk:kind = Q4v
       . rw [hk]; unfold Short; decide
       . rw [Q4n hk] at h; cases h
     | false=>cases hc:C with
       | true =>
         have h:=HC.out;rw [hc] at h
         by_cases hk:kind = sOr
         . rw [hk]; unfold Short; decide
         . rw [Q4n hk] at h; cases h
       | false=>rw [hb,hc] at hkk; cases hkk
    have hme:EE = Q3w a b:=by rw [<- HEE.out]; unfold Q8x; rw [if_pos HE1.out]
    have hmt:TT = if Q3w a b = 0 then Q0k a b kind else ⟨[],[],[]⟩:=by
     rw [<- HTT.out]; unfold Y0k; rw [HEE.out,hme]
    subst hme hmt;have sa:=hva.size;have sb:=hvb.size;unfold Tree.size at sa sb;have ga:=hva.ng';have gb:=hvb.ng';have na:=hva.nb;have nb:=hvb.nb;have hic:∀ k,k < b.causes.length -> (Q0e b.causes k).length <= 1000 /\ ∀ x ∈ Q0e b.causes k,0 <= x /\ x < 1000:=fun k hk=>by
     obtain ⟨_,_,h3,h4,_⟩:=hvb.cause hk;exact ⟨by omega,fun x hx=>by have:=h4 x hx; omega⟩
    have hia:∀ k,k < a.gates.length -> (Q0j a.gates k).length <= 1000 /\ ∀ x ∈ Q0j a.gates k,0 <= x /\ x < 1000:=fun k hk=>by
     obtain ⟨_,_,h3,h4,_⟩:=hva.Y9e hk;exact ⟨by omega,fun x hx=>by have:=h4 x hx; omega⟩
    have hin:∀ k,k < b.gates.length -> (Q0j b.gates k).length <= 1000 /\ ∀ x ∈ Q0j b.gates k,0 <= x /\ x < 1000:=fun k hk=>by
     obtain ⟨_,_,h3,h4,_⟩:=hvb.Y9e hk;exact ⟨by omega,fun x hx=>by have:=h4 x hx; omega⟩
    have hst:=Y7m hva hvb hks;clear hz hkk hks hva hvb;have HIC:=Lib.hid hic;have HIA:=Lib.hid hia;have HIN:=Lib.hid hin;have HST:=Lib.hid hst;clear hic hia hin hst;have HXA:=Lib.hid hxall;clear hxall;go_upto_if 36 with fail
    go_step
    go_step
    go_step
    go_step
    exact J2u w WB a b kind w.heap.size (w.heap.size + 1) (w.heap.size + 1 + 1) Aa Ca Ga Bbs Cb Gb ca cca cga cbb ccb cgb (fun _=>HST.out) (by omega) (by omega) (by omega) (by omega) (by omega) (by omega) (by omega) (by omega) HIC.out HIA.out HIN.out (HTA.out.ext HXX.out) (HTB.out.ext HXX.out) (K0.out.ext HXX.out) (K1.out.ext HXX.out) KR.out (by omega) HXA.out _ _ _ _ _ _ _ _ _ _ _ _ _ _ _ _ _ _ _ _ _ _ _ _ _ _ _ _ _ _ _ _ _ _ _ _ _ _ _ _ _ _ _ _ _ _ _ _ _ _ _ _ _ _ _ _ _ _ _ _ _ _ _ _ _ _ _ _ _ _ _ _ _ _ _ _ _ _ _ _ _ _ _ _ _ _ _ _ _ _ _ _ _ _ _ _ _ _ _ _ _ _ _ _ _ _ _ _ _ _ _ _ _ _ _ _ _ _ _ _ _ _ _ _ _ _ _ _ _ _ _ _ _ _ _ _ _ _ _ _ _ _ _ _ _ _ _ _ _ _ _ _ _ _ _ _ _ _ _ _ _ _ _ _ _ _ _ _ _ _ _ _ _ _ _ _ _ _ _ _ _ _ _ _ _ _ _ _ _ _ _ _ _ _ _
  . have hne:(E1 != 0) = true:=by simp [hE0]
    have hme:EE = E1:=by rw [<- HEE.out]; unfold Q8x; rw [HE1.out,if_neg hE0]
    have hmt:TT = ⟨[],[],[]⟩:=by
     rw [<- HTT.out]; unfold Y0k; rw [HEE.out,hme,if_neg hE0]
    subst hme hmt;have HXA:=Lib.hid hxall;clear hxall;go_wp2_with (refine Q0g rfl _ _ 33 rfl Tryz.Q0x rfl rfl KR.out rfl rfl ?_ ?_; (focus (exact X2d _ _ _ _ _ _ _ _ _)); intro w11 hb11 hl11 ho11);refine bodyPost_ret (Q0r Tryz.results9 rfl hb11 Tryz.Q2y Tryz.Q0x rfl) rfl ?_;exact ⟨_,rfl,fun _ _=>X1x _,Below.trans HXA.out (hl11 _ (by omega))⟩
end Go.Proofs
namespace Go.Proofs
open Go.RowKit Go.Tw Go.Flow
structure RG (w:World) (B0:Nat) (a b:Tree) (A Bx R X Y:Nat) (Aa Ca Ga Ab Cb Gb:Option Addr) (ca cca cga cb ccb cgb:Nat) (xb xc xg yb yc yg:Value) (mg ng:Nat -> Value):Prop where
 kA:Blk w A 26 #[.slice Aa a.basics.length ca,.slice Ca a.causes.length cca,.slice Ga a.gates.length cga]
 kB:Blk w Bx 26 #[.slice Ab b.basics.length cb,.slice Cb b.causes.length ccb,.slice Gb b.gates.length cgb]
 kR:Blk w R 26 #[.slice none 0 0,.slice none 0 0,.slice none 0 0]
 kX:Blk w X 26 #[xb,xc,xg]
 kY:Blk w Y 26 #[yb,yc,yg]
 xg:Q1o w B0 97 3 enc3 xg ((List.range a.gates.length).map (gF a mg))
 yg:Q1o w B0 97 3 enc3 yg ((List.range b.gates.length).map (gF b ng))
theorem RG.keep {T:TypeId} {w w':World} {B0:Nat} {a b:Tree} {A Bx R X Y:Nat} {Aa Ca Ga Ab Cb Gb:Option Addr} {ca cca cga cb ccb cgb:Nat} {xb xc xg yb yc yg:Value} {mg ng:Nat -> Value}
    (h:RG w B0 a b A Bx R X Y Aa Ca Ga Ab Cb Gb ca cca cga cb ccb cgb xb xc xg yb yc yg mg ng) (hT:26 ≠ T) (hG:97 ≠ T) (hk:Keep T w w'):RG w' B0 a b A Bx R X Y Aa Ca Ga Ab Cb Gb ca cca cga cb ccb cgb xb xc xg yb yc yg mg ng :=
 ⟨hk _ _ _ hT h.kA,hk _ _ _ hT h.kB,hk _ _ _ hT h.kR,hk _ _ _ hT h.kX,hk _ _ _ hT h.kY,Q1k h.xg hG hk,Q1k h.yg hG hk⟩
theorem RG.off {w w':World} {B0 O:Nat} {a b:Tree} {A Bx R X Y:Nat} {Aa Ca Ga Ab Cb Gb:Option Addr} {ca cca cga cb ccb cgb:Nat} {xb xc xg yb yc yg:Value} {mg ng:Nat -> Value} {cs:Array Value}
    (h:RG w B0 a b A Bx R X Y Aa Ca Ga Ab Cb Gb ca cca cga cb ccb cgb xb xc xg yb yc yg mg ng) (hO:Blk w O 26 cs) (h1:A ≠ O) (h2:Bx ≠ O) (h3:R ≠ O) (h4:X ≠ O) (h5:Y ≠ O) (ho:∀ k,k ≠ O -> w'.heap[k]? = w.heap[k]?):RG w' B0 a b A Bx R X Y Aa Ca Ga Ab Cb Gb ca cca cga cb ccb cgb xb xc xg yb yc yg mg ng :=
 ⟨h.kA.only h1 ho,h.kB.only h2 ho,h.kR.only h3 ho,h.kX.only h4 ho,h.kY.only h5 ho,Q1k h.xg (by decide) (Keep.store hO ho),Q1k h.yg (by decide) (Keep.store hO ho)⟩
end Go.Proofs
namespace Go.Flow
open Go.RowKit Go.Tw
structure Z9n (Rel:World -> World -> Prop) where
 D:(Nat -> Value) -> World -> Prop
 mono:∀ v w w',Rel w w' -> D v w -> D v w'
def Z9n.is {Rel:World -> World -> Prop} (j:Nat) (e:(Nat -> Value) -> Value):Z9n Rel:=⟨fun v _=>v j = e v,fun _ _ _ _ h=>h⟩
def Z9n.none {Rel:World -> World -> Prop}:Z9n Rel:=⟨fun _ _=>True,fun _ _ _ _ _=>trivial⟩
section
variable {P:Program} {id:Nat} {Q:Exit -> Act -> World -> Prop} {a0:Act} {w:World} {ops:List Oper}
end
end Go.Flow
namespace Go.Proofs
open Go.RowKit Go.Tw Go.Flow
structure Y7v (gx:Nat) (T:Array Value) (w w':World):Prop where
 os:w'.os = w.os
 tape:w'.tape = w.tape
 output:w'.output = w.output
 size:w.heap.size <= w'.heap.size
 block:∀ k,k < w.heap.size -> k ≠ gx -> w'.heap[k]? = w.heap[k]?
 spot:gx < w.heap.size -> w'.heap[gx]? = w.heap[gx]? ∨ w'.heap[gx]? = some (.cells T 97 (0,0))
theorem Y7v.refl (gx:Nat) (T:Array Value) (w:World):Y7v gx T w w:=⟨rfl,rfl,rfl,Nat.le_refl _,fun _ _ _=>rfl,fun _=>.inl rfl⟩
theorem Y7v.trans {gx:Nat} {T:Array Value} {a b c:World} (h:Y7v gx T a b) (k:Y7v gx T b c):Y7v gx T a c :=
 ⟨k.os.trans h.os,k.tape.trans h.tape,k.output.trans h.output,Nat.le_trans h.size k.size,fun i hi hne=>(k.block i (Nat.lt_of_lt_of_le hi h.size) hne).trans (h.block i hi hne),fun hg=>by
  rcases k.spot (Nat.lt_of_lt_of_le hg h.size) with e | e
  . rcases h.spot hg with e2 | e2
    . exact .inl (e.trans e2)
    . exact .inr (e.trans e2)
  . exact .inr e⟩
theorem Y7v.ext {gx:Nat} {T:Array Value} {w w':World} (h:Ext w w'):Y7v gx T w w':=⟨h.os,h.tape,h.output,h.size,fun k hk _=>h.block k hk,fun hg=>.inl (h.block gx hg)⟩
theorem Y7v.below {gx B:Nat} {T:Array Value} {w w':World} (h:Y7v gx T w w') (hB:B <= gx) (hw:B <= w.heap.size):Below B w w':=⟨h.os,h.tape,h.output,h.size,fun k hk=>h.block k (by omega) (by omega)⟩
theorem Y7v.blk {gx b:Nat} {T:Array Value} {S:TypeId} {cs:Array Value} {w w':World} (h:Y7v gx T w w') (hb:Blk w b S cs) (hne:b ≠ gx):Blk w' b S cs:=by
 have hl:=hb.lt;unfold Blk at *;rw [h.block b hl hne]; exact hb
theorem Y7v.keep {gx:Nat} {T c0:Array Value} {w w':World} (h:Y7v gx T w w') (hg:Blk w gx 97 c0):Keep 97 w w':=fun _ _ _ hS hb=>h.blk hb (Q2f hb hg hS)
def Q4 (gx:Nat) (T:Array Value) (B0 n:Nat) (L:List (ByteArray × Int × Value)) (w:World) (v:Value):Prop :=
 gx < w.heap.size /\ ∃ bo co,v = .slice bo n co /\ Q1o w B0 97 3 enc3 (.slice bo n co) L /\ ((v.ownBlock = some gx /\ w.heap[gx]? = some (.cells T 97 (0,0))) ∨ v.ownBlock ≠ some gx)
theorem Q4.rel {gx B0 n:Nat} {T:Array Value} {L:List (ByteArray × Int × Value)} {w w':World} {v:Value} (h:Q4 gx T B0 n L w v) (hr:Y7v gx T w w'):Q4 gx T B0 n L w' v:=by
 obtain ⟨hg,bo,co,rfl,ho,hs⟩:=h;have hs':∀ g,(Value.slice bo n co).ownBlock = some g -> g < w.heap.size -> w'.heap[g]? = w.heap[g]?:=fun g hv hl=>by
  rcases hs with ⟨h1,h2⟩ | h1
  . rw [h1] at hv
    cases hv
    rcases hr.spot hg with e | e
    . exact e
    . rw [e,h2]
  . exact hr.block g hl (fun e=>h1 (by rw [hv,e]))
 refine ⟨Nat.lt_of_lt_of_le hg hr.size,bo,co,rfl,?_,?_⟩
 . obtain ⟨h1,h2⟩:=ho
   refine ⟨h1,?_⟩
   rcases h2 with h2 | ⟨g,cap,cur,hv,hb,hgl,r⟩
   . exact .inl h2
   . exact .inr ⟨g,cap,cur,hv,hb,by rw [hs' g (by rw [hv]; rfl) (Array.getElem?_eq_some_iff.1 hgl).1]; exact hgl,r⟩
 . rcases hs with ⟨h1,h2⟩ | h1
   . refine .inl ⟨h1,?_⟩
     rw [hs' gx h1 hg]; exact h2
   . exact .inr h1
end Go.Proofs
namespace Go.Proofs
open Go.RowKit Go.Tw Go.Flow
theorem J1x.keep {w w':World} {base:Nat} {t:Tree} {vb vc vg:Value} {mc mg:Nat -> Value} (h:J1x w base t vb vc vg mc mg) (hk:Keep 26 w w'):J1x w' base t vb vc vg mc mg :=
 ⟨Q1k h.bas (by decide) hk,Q1k h.cau (by decide) hk,Q1k h.gat (by decide) hk,fun i hi=>Q3x (h.mem i hi) (by decide) hk,fun i hi=>Q3x (h.inp i hi) (by decide) hk⟩
theorem Z0e.weaken {B B':Nat} {t:Tree} {mc mg:Nat -> Value} (h:Z0e B t mc mg) (hb:B' <= B):Z0e B' t mc mg:=⟨h.1.weaken hb,h.2.1.weaken hb,h.2.2⟩
theorem Apart.symm {u v:Value} (h:Apart u v):Apart v u:=fun b h1 h2=>h b h2 h1
structure J6z (B M:Nat) (t:Tree) (vg:Value) (mc mg:Nat -> Value):Prop where
 ap:Z0e B t mc mg
 c:∀ i,i < t.causes.length -> ∀ b,(mc i).ownBlock = some b -> b < M
 g:∀ i,i < t.gates.length -> ∀ b,(mg i).ownBlock = some b -> b < M
 t:∀ b,vg.ownBlock = some b -> b < M
end Go.Proofs
namespace Go.Proofs
open Go.Tw
def J3u (l m:List Int):Bool:=l.all fun x=>has m x
theorem X1q:∀ {l:List Int},l.Pairwise (· < ·) -> X4r l = true
 | [],_=>rfl
 | [_],_=>rfl
 | x :: y :: l,h=>by
   rw [List.pairwise_cons] at h;unfold X4r;rw [X1q h.2,decide_eq_true (h.1 y (List.mem_cons_self ..))];rfl
theorem Y2d (s:Nat):(bitsOf s).Pairwise (· < ·):=by
 unfold bitsOf;rw [List.pairwise_map];exact (List.pairwise_lt_range.filter _).imp fun h=>Int.ofNat_lt.2 h
theorem J1f {n s:Nat} (h:s < 2 ^ n):(bitsOf s).length <= n:=by
 unfold bitsOf;rw [List.length_map];exact X3a n _ (List.nodup_range.filter _) fun x hx=>Z4v h (List.mem_filter.1 hx).2
theorem Y6x {n s:Nat} (h:s < 2 ^ n):Q1l (bitsOf s) n = 0:=by
 unfold Q1l;rw [X1q (Y2d s),if_pos rfl,if_neg];unfold Z1p;rw [Bool.not_eq_true,List.any_eq_false];intro x hx;obtain ⟨i,_,hb,rfl⟩:=Z2u.1 hx;have:=Z4v h hb;simp only [decide_eq_true_eq];omega
def QOf (t:Tree) (p:Bool) (q:Nat -> Bool):Prop:=J4f q /\ ∀ s,s < 2 ^ t.size -> q s = t.setB (bitsOf s) p
theorem qOf (t:Tree) (hs:t.size <= 12):∀ p,∃ q,QOf t p q
 | false=>⟨Q7o t,Z4t t,fun _ h=>Z5j hs h⟩
 | true=>⟨J0a t,Z2k t,fun _ h=>J0l hs h⟩
theorem Z4x {t:Tree} (hs:t.size <= 12) {p:Bool} {l:List Int} (hl:l ∈ t.sets p):l.length <= t.size /\ Q1l l t.size = 0:=by
 obtain ⟨q,_,hq⟩:=qOf t hs p;obtain ⟨s,h1,_,rfl⟩:=(J1i hs hq l).1 hl;exact ⟨J1f h1,Y6x h1⟩
theorem Y3w {t:Tree} (hs:t.size <= 7) (p:Bool):(t.sets p).length <= 35 /\ ∀ x ∈ t.sets p,Q1l x t.size = 0:=by
 obtain ⟨q,hm,hq⟩:=qOf t (by omega) p
 exact ⟨Z3d hs hm hq,fun x hx=>(Z4x (by omega) hx).2⟩
end Go.Proofs
namespace Go.Proofs
open Go.RowKit Go.Tw Go.Flow
def Y4r (t:Tree) (n:Nat) (w:World) (e:Ending) (w':World):Prop:=∃ q,e = .returned (.bool q) /\ (q = true -> t.err = 0 /\ Fits t n /\ t.size <= n) /\ Ext w w' /\ (q = false -> ¬ (t.err = 0 /\ Good t n))
theorem Y1a {t:Tree} {n:Nat} {w w':World} {e:Ending} (q:Bool) (he:e = .returned (.bool q)) (hf:q = true -> t.err = 0 /\ Fits t n /\ t.size <= n) (hx:Ext w w') (hg:q = false -> ¬ (t.err = 0 /\ Good t n)):Y4r t n w e w':=⟨q,he,hf,hx,hg⟩
theorem Z7e {t:Tree} {n:Nat} (h:Fits t n) (he:t.err = 0):t.size <= n:=by
 rcases h.s with h | h
 . exact h
 . exact absurd he h
theorem Y1t (w:World) (v:Value) (t:Tree) (n:Nat) (ht:IsTree w v t) (hn:n <= 1000) :
    Calls Tryz.prog 15 #[v,.int .i64 n] w fun e w'=>Y4r t n w e w':=by
 obtain ⟨a,b,c,rfl,h3⟩:=ht;obtain ⟨A,capa,rfl,hl1,hcap1,_⟩:=h3.basics.opened;obtain ⟨B,capb,rfl,hl2,hcap2,_⟩:=h3.causes.opened;obtain ⟨G,capg,rfl,hl3,hcap3,_⟩:=h3.gates.opened;have HT0:=Lib.hid h3;clear h3;go_enter Tryz.func15,Tryz.ntmps15;go_wp2_with fail;change Calls _ _ _ (w.alloc (.cells #[.slice A t.basics.length capa,.slice B t.causes.length capb,.slice G t.gates.length capg] 26)) _;obtain ⟨W,hWW,k0,HXW,eW⟩:=Q3j w 26 #[.slice A t.basics.length capa,.slice B t.causes.length capb,.slice G t.gates.length capg];rw [hWW];clear hWW;have HT:=Lib.hid (HT0.out.ext HXW.out);refine (Z6u _ _ t n ⟨_,_,_,rfl,HT.out⟩ hn).mono ?_;rintro e w1 ⟨q,rfl,hq,hx1,hg⟩;have kt:=k0.ext hx1;have c0:=kt.cell 0;have c1:=kt.cell 1;have c2:=kt.cell 2;simp only [Go.Tw.gA,Go.Tw.gB,Go.Tw.gC] at c0 c1 c2;have HX1:=Lib.hid hx1;clear kt k0 hx1;cases q with
 | false =>
   have HG:=Lib.hid (hg rfl);clear hq hg;clear c0 c1 c2;go_wp2;go_ret;exact Y1a false rfl (fun h=>by cases h) (HXW.out.trans HX1.out) (fun _ h=>HG.out h.2)
 | true =>
   have HQ:=Lib.hid (hq rfl);clear hq hg;go_wp2_with fail;refine (Q9l _ _ t ⟨_,_,_,rfl,HT.out.ext HX1.out⟩).mono ?_;rintro e w2 ⟨rfl,hx2⟩;have HX2:=Lib.hid (HXW.out.trans (HX1.out.trans hx2));obtain ⟨E,hE⟩:∃ E,t.err = E:=⟨_,rfl⟩;rw [hE];have HE:=Lib.hid hE;obtain ⟨p,hp⟩:∃ p,(E == 0) = p:=⟨_,rfl⟩;have HP:=Lib.hid hp;clear hE hx2 c0 c1 c2;go_wp2;go_ret;refine Y1a p rfl (fun h=>?_) HX2.out (fun h hh=>?_)
   . have h1:=HP.out
     rw [h,beq_iff_eq] at h1;have h2:t.err = 0:=HE.out.trans h1;exact ⟨h2,HQ.out,Z7e HQ.out h2⟩
   . have h1:=HP.out
     rw [h,beq_eq_false_iff_ne] at h1;exact h1 (HE.out.symm.trans hh.1)
end Go.Proofs
namespace Go.Proofs
open Go.RowKit Go.Tw Go.Flow
theorem Z2d {w:World} {base:Nat} {T:TypeId} {v:Value} {vs:List Value} {ll:List (List Int)} (h:Q0t w base T idV v vs) (hlen:vs.length = ll.length) (hl:ll.length <= 2000) (hm:∀ j,j < ll.length -> Q0t w 0 3 (.int .i64) (vs.getD j undef) (ll.getD j []) /\ (ll.getD j []).length <= 1000):Q1t w v ll:=by
 have hr:=h.row (by omega) (fun j=>vs.getD j undef) (fun k hk=>by simp [hk,idV])
 rw [hlen] at hr;refine ⟨fun j=>vs.getD j undef,hr,fun j hj=>?_⟩;obtain ⟨h1,h2⟩:=hm j hj;have:=h1.ints (by omega)
 rw [Q3k _ hj] at this
 simpa using this
end Go.Proofs
namespace Go.Proofs
open Go.RowKit Go.Tw Go.Flow
def X7w (B:Nat) (w:World) (v:Value) (ll:List (List Int)):Prop:=∃ vs:List Value,vs.length = ll.length /\ Q0t w B 40 idV v vs /\ ∀ j,j < ll.length -> Q0t w 0 3 (.int .i64) (vs.getD j undef) (ll.getD j [])
theorem X7w.ext {B:Nat} {w w':World} {v:Value} {ll:List (List Int)} (h:X7w B w v ll) (hx:Ext w w'):X7w B w' v ll :=
 let ⟨vs,h1,h2,h3⟩:=h; ⟨vs,h1,h2.below hx,fun j hj=>(h3 j hj).below hx⟩
theorem X7w.read {B:Nat} {w:World} {v:Value} {ll:List (List Int)} (h:X7w B w v ll) (hl:ll.length <= 2000) (hs:∀ j,j < ll.length -> (ll.getD j []).length <= 1000):Q1t w v ll :=
 let ⟨_,h1,h2,h3⟩:=h; Z2d h2 h1 hl fun j hj=>⟨h3 j hj,hs j hj⟩
theorem X7w.shape {B:Nat} {w:World} {v:Value} {ll:List (List Int)} (h:X7w B w v ll):∃ b c,v = .slice b ll.length c /\ ll.length <= c:=by
 obtain ⟨vs,h1,h2,_⟩:=h;rw [<- h1];exact h2.shape
end Go.Proofs
namespace Go.Proofs
open Go.RowKit Go.Tw Go.Flow
theorem J0b (w:World) (u:Value) (t:Tree) (p:Bool) (he:t.err = 0) (hu:IsTree w u t) (hT:Tab w) :
    Calls Tryz.prog (if p then 34 else 20) #[u] w fun e w'=>∃ x,e = .returned (.tuple #[x,.int .i64 0]) /\ Q1t w' x (t.sets p) /\ Ext w w':=by
 have e:X3m t p = t.sets p:=by unfold X3m; rw [if_pos he]
 cases p with
 | false=>have h:=Y4e w u t hu hT; rw [he,e] at h; exact h
 | true=>have h:=Y0s w u t hu hT; rw [he,e] at h; exact h
structure J7a (t:Tree) (L:List (List Int)):Prop where
 le:L.length <= 35
 each:∀ k,k < L.length -> (L.getD k []).length <= 7 /\ Q1l (L.getD k []) t.size = 0
 apart:∀ i k,i < L.length -> k < L.length -> k ≠ i -> J3u (L.getD k []) (L.getD i []) = false
end Go.Proofs
