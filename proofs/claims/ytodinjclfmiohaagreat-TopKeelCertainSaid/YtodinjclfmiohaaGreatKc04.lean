/- Contract of the basin: CheckBasin of a basin that the program accepts. Blocks of structs: their cells by a function of the place; stores, copies and clears of parts of a block. A copy into the first elements of a block, as an arm (as in RH13, with less ahead of it). A list of lists that a call makes and appends to. Lists of closings. Contract of the basin: a step. A run of the basin on lists: the volumes behind each step, up to the first step that is not fine. No program in sight. The steps of a run, visited by a function that is handed the rounds of a loop. A loop over an iterator that stores into a box of its own between two rounds: the law of the walk. No program in sight. The steps of a run, collected. Contracts of the basin: passages, Collect, run. Contract of the basin: run. Contracts of the basin: the check of a condition, of volumes; the checked run. Contracts of the basin: the checks of all conditions, CheckVolumes, the checked run. Contract of the basin: levels. -/
import Derived.Test.YtodinjclfmiohaaGreatKc03
import Derived.Test.YtodinjclfmiohaaGreatKc02
import Derived.Laws.MakeOwn
import Derived.Test.YtodinjclfmiohaaGreatKc01
import Derived.OwnWalk
import Derived.RangeFuncNested
import Derived.RangeFuncBound
import Derived.RangeFuncCalls
import Derived.RangeFuncLeaves
import Derived.Shelf.RegionOpen
import Derived.WalkKit
import Derived.OwnWalkIn
import Derived.TacticsInMore
import Derived.LoopNIn
import Derived.LoopIn
import Derived.Maps.AppendAt
set_option maxRecDepth 1000000
set_option maxHeartbeats 64000000
set_option linter.unusedVariables false
set_option linter.unusedSimpArgs false
set_option linter.constructorNameAsVariable false
namespace Go.Proofs
open Go.RowKit Go.Tw Go.Flow Go.Ba
attribute [local go_sem] Oper.semAt_some
theorem Z0s (s x:ByteArray) (v:Value):∀ l:List (ByteArray × Value),Q7s x (Y6n s v l) = if x = s then some v else Q7s x l
 | []=>by
   unfold Y6n Q7s
   by_cases h:x = s
   . rw [if_pos (by rw [h]; exact beq_self_eq_true s),if_pos h]
   . rw [if_neg (by simpa using h),if_neg h]; rfl
 | p :: l=>by
   unfold Y6n
   by_cases hs:(s == p.1) = true
   . have hsp:s = p.1:=by simpa using hs
     rw [if_pos hs];unfold Q7s
     by_cases h:x = s
     . rw [if_pos (by rw [h]; exact beq_self_eq_true s),if_pos h]
     . rw [if_neg (by simpa using h),if_neg h,if_neg (by rw [<- hsp]; simpa using h)]
   . rw [if_neg hs]
     unfold Q7s;rw [Z0s s x v l]
     by_cases h:x = s
     . simp only [if_pos h]; rw [if_neg (by rw [h]; exact hs)]
     . simp only [if_neg h]
def X1u (l:List (ByteArray × Value)) (f:Nat -> ByteArray) (k:Nat):Prop:=∀ s,(∀ j,j < k -> f j ≠ s) -> (Q7s s l).getD (.bool false) = .bool false
theorem X1u.nil (f:Nat -> ByteArray):X1u [] f 0:=fun _ _=>rfl
theorem X1u.put {l:List (ByteArray × Value)} {f:Nat -> ByteArray} {k:Nat} (h:X1u l f k):X1u (Y6n (f k) (.bool true) l) f (k + 1):=fun s hs=>by
 rw [Z0s,if_neg (fun e=>hs k (Nat.lt_succ_self k) e.symm)];exact h s fun j hj=>hs j (by omega)
theorem J0r:Tryz.prog.underlying 193 = some (.map 9 4):=by kernel_rfl
theorem J7u (w:World):(zeroValue 4).run Tryz.prog w = .ok (.bool false) w:=by kernel_rfl
theorem Y1w (w:World) (vb:Value) (x:Q1j) (hv:Q2g w vb x) (hb:x.Fine) :
    Calls Tryz.prog 74 #[vb] w fun e w'=>e = .returned (.int .i64 0) /\ Ext w w':=by
 have hmm:=@run_makeMap Tryz.prog;obtain ⟨va,vl,rfl,h2⟩:=hv;obtain ⟨A,capa,rfl,-,-,-⟩:=h2.nodes.opened;obtain ⟨L,capl,rfl,-,-,-⟩:=h2.links.opened;have H2:=Lib.hid h2;have HF:=Lib.hid hb;obtain ⟨n,hn⟩:∃ z,x.nodes.length = z:=⟨_,rfl⟩;obtain ⟨m,hm⟩:∃ z,x.links.length = z:=⟨_,rfl⟩;have HN:=Lib.hid hn;have HM:=Lib.hid hm;have HNB:Hid (1 <= n /\ n <= 8):=Lib.hid (by rw [<- hn]; exact hb.ok.some)
 have HMB:Hid (m <= 16):=Lib.hid (by rw [<- hm]; exact hb.ok.many)
 have he0:((n:Int) == 0) = false:=by have:=HNB.out; simp; omega
 have hgt:decide ((8:Int) < (n:Int)) = false:=by have:=HNB.out; simp; omega
 rw [hn,hm];clear h2 hb hn hm;go_enter Tryz.func74,Tryz.ntmps74;go_upto_region 1 with fail;obtain ⟨W,hWW,k0,HXW,eW⟩:=Q2y w 40 #[.slice A n capa,.slice L m capl];rw [hWW];clear hWW;obtain ⟨g,hg⟩:∃ z,w.heap.size = z:=⟨_,rfl⟩;rw [hg] at k0 eW ⊢;have K0:=Lib.hid k0;have HGW:Hid (g < W.heap.size):=Lib.hid k0.lt;have hdr:=(Ext.refl W).drew;clear k0 eW hg;refine Flow.Q1q [.p,.w,.p,.p,.w,.p,.w,.p,.p,.w,.w,.w,.p] [0,1,2,3,4,5,6,7,8,9,10,11,12] [[],[0],[1],[2],[3],[],[5],[6],[7],[4,8],[4,9],[9,10],[0,1,2,3,4,5,6,7,8,9,10,11]]
  [.c 0 (.pointer (some ⟨g,0,none⟩)),.c 1 (.slice A n capa),.c 2 (.int .i64 ((n:Nat):Int)),.c 3 (.bool false),.c 4 (.int .i64 0),.c 5 (.pointer (some ⟨g,0,none⟩)),.c 6 (.slice A n capa),.c 7 (.int .i64 ((n:Nat):Int)),.c 8 (.bool false),.c 9 (.int .i64 0),⟨fun v wz=>Q0e wz (v 10) [0,0],fun _ _ _ hx h=>h.ext hx⟩,.c 11 (.int .i64 0),.c 12 (.int .i64 0)]
  (by kernel_rfl) rfl (by kernel_rfl) ⟨?g0,?g1,?g2,?g3,?g4,?g5,?g6,?g7,?g8,?g9,?g10,?g11,?g12,trivial⟩ ?post
 case g0 | g5=>
  intro v w1 hx;intro bb hbb;subst hbb;refine ⟨_,fun w=>?_,rfl⟩;go_simp
 case g1 | g6=>
  intro v w1 hx;(repeat intro (zq:v _ = _));intro bb hbb;subst hbb;have n0:w1.cell? ⟨g,0,none⟩ = some (.slice A n capa):=(K0.out.ext (hdr.trans hx)).cell 0;intro K hK;go_simp;exact hK _ _ (Ext.refl _) rfl
 case g2 | g3 | g7 | g8=>
  intro v w1 hx;(repeat intro (zq:v _ = _));intro bb hbb;subst hbb;refine ⟨_,fun w=>?_,rfl⟩;go_simp
 case g4=>
  intro v w1 hx;(repeat intro (zq:v _ = _));intro bb hbb;subst hbb;intro K hK;go_simp;refine Q0f (X3t w1 false 12 rfl) ?_;rintro e w2 ⟨rfl,rfl⟩;exact ⟨_,rfl,hK _ _ (Ext.refl _) rfl⟩
 case g9=>
  intro v w1 hx;(repeat intro (zq:v _ = _));intro bb hbb;subst hbb;intro K hK;go_simp;refine Q0f (X3t w1 false 5 rfl) ?_;rintro e w2 ⟨rfl,rfl⟩;exact ⟨_,rfl,hK _ _ (Ext.refl _) rfl⟩
 case g10=>
  intro v w1 hx;(repeat intro (zq:v _ = _));intro bb hbb;subst hbb;intro K hK;go_simp;exact hK _ _ (Ext.box _ _) (Q2l (l:=[0,0]) (by simp))
 case g11=>
  intro v w1 hx (q9:v 9 = _) (q10:Q0e w1 (v 10) [0,0]);intro bb hbb;subst hbb;intro K hK;go_simp;refine Q0f (Q7r w1 _ [0,0] q10 (by simp)) ?_
  rintro e w2 ⟨rfl,rfl⟩;exact ⟨_,rfl,hK _ _ (Ext.refl _) rfl⟩
 case g12=>
  intro v w1 hx (q0:v 0 = _) (q1:v 1 = _) (q2:v 2 = _) (q3:v 3 = _) (q4:v 4 = _) (q5:v 5 = _) (q6:v 6 = _) (q7:v 7 = _) (q8:v 8 = _) (q9:v 9 = _) _ (q11:v 11 = _);intro bb hbb;subst hbb;refine ⟨_,fun w=>?_,rfl⟩;go_simp
 case post =>
  intro v w1 hx (q0:v 0 = _) (q1:v 1 = _) (q2:v 2 = _) (q3:v 3 = _) (q4:v 4 = _) (q5:v 5 = _) (q6:v 6 = _) (q7:v 7 = _) (q8:v 8 = _) (q9:v 9 = _) (q10:Q0e w1 (v 10) [0,0]) (q11:v 11 = _) (q12:v 12 = _);simp only [Flow.All,Flow.acts,Act.put];go_simp;have HX1:=Lib.hid (HXW.out.trans (hdr.trans hx));have HK1:=Lib.hid (K0.out.ext (hdr.trans hx));have HG1:Hid (g < w1.heap.size):=Lib.hid (by have:=(hdr.trans hx).size; have:=HGW.out; omega)
  have c0:=HK1.out.cell 0;simp only [Go.Tw.gA,Go.Tw.gB,Go.Tw.gC] at c0;clear hx hdr q0 q1 q2 q3 q4 q5 q6 q7 q8 q9 q10 q11 q12 he0 hgt HGW;go_upto_region 5 with fail;clear hmm;have hmap:=Q2c.made w1;have hxm:Ext w1 (w1.alloc (.map #[] 0)):=Ext.box w1 (.map #[] 0);obtain ⟨b,hb⟩:∃ z,w1.heap.size = z:=⟨_,rfl⟩;obtain ⟨W2,hW2⟩:∃ z,w1.alloc (.map #[] 0) = z:=⟨_,rfl⟩;rw [hW2,hb] at hmap;rw [hW2] at hxm ⊢;rw [hb];have HMP:=Lib.hid hmap;have HXM:=Lib.hid hxm;have HB:=Lib.hid hb;replace c0:=hxm.cell c0;clear hmap hxm hW2 hb;go_wp2;clear c0
  go_loopw [27] (fun iv wr=>∃ k:Nat,k <= n /\ iv = .int .i64 k /\ (∃ l,Q2c wr b l /\ X1u l (X7d x.nodes) k) /\ Below b W2 wr) (fun iv _=>n - (intOf iv).toNat)
  case atStart=>exact ⟨0,Nat.zero_le _,rfl,⟨_,HMP.out,X1u.nil _⟩,Below.refl _ _⟩
  case round =>
   obtain ⟨k,hk,rfl,⟨kl,hmp,hkn⟩,hlo⟩:=hrel;have HMPR:=Lib.hid hmp;have HKN:=Lib.hid hkn;have HLO:=Lib.hid hlo;have HXR:Hid (Ext w wr):=Lib.hid (Below.trans (HX1.out.trans HXM.out) (hlo.mono (by have:=HB.out; have:=HX1.out.size; omega)))
   by_cases hlt:k < n
   . have hkI:(k:Int) < (n:Int):=by omega
     have HK:=Lib.hid hlt;have HWK:Hid (wrap64 ((k:Int) + 1) = (k:Int) + 1):=Lib.hid (by have:=HNB.out; unfold wrap64; omega)
     obtain ⟨L9,c9,h9,-,-,hcx⟩:=(H2.out.ext HXR.out).nodes.opened;obtain ⟨bx,ox,hbx,-,d0,d1,d2,hsh⟩:=hcx k (by rw [HN.out]; exact hlt)
     rw [HN.out] at h9;injection h9 with k1 k2 k3;subst k1 k3;subst hbx;have hnm0:=HF.out.names k (by rw [HN.out]; exact hlt)
     have hdf:∀ j,j < k -> X7d x.nodes j ≠ X7d x.nodes k:=fun j hj=>HF.out.diff j k hj (by rw [HN.out]; exact hlt)
     have har0:=HF.out.ok.areas k (by rw [HN.out]; exact hlt)
     have hli0:=HF.out.ok.limits k (by rw [HN.out]; exact hlt)
     have hput0:=hkn.put;have hnot:=hkn _ hdf;obtain ⟨nm,hnm⟩:∃ z,X7d x.nodes k = z:=⟨_,rfl⟩;obtain ⟨ar,har⟩:∃ z,Q6m x.nodes k = z:=⟨_,rfl⟩;obtain ⟨li,hli⟩:∃ z,X2e x.nodes k = z:=⟨_,rfl⟩;rw [hnm] at d0 hsh hnm0 hput0 hnot;rw [har] at d1 har0;rw [hli] at d2 hli0;have HPUT:=Lib.hid hput0;have HAR:=Lib.hid har0;have HLI:=Lib.hid hli0;have HNMB:Hid (∀ w',Calls Tryz.prog 105 #[.string nm] w' fun e w''=>e = .returned (.bool true) /\ Ext w' w''):=Lib.hid (fun w'=>by have:=Y3n w' nm hsh; rwa [hnm0] at this)
     have HLK:Hid (∀ w',Ext wr w' -> (Instr.lookup 193 (.map (some b)) (.string nm) false).run Tryz.prog w' = .ok (.bool false) w'):=Lib.hid (fun w' h=>by
      have h:=Q5n (P:=Tryz.prog) (hmp.ext h) J0r Y6e (J7u _) nm false;rw [if_neg (by simp),hnot] at h
      exact h)
     clear hcx hnm har hli hmp hkn hlo k2 hsh hnm0 hdf har0 hli0 hput0 hnot hk hlt;go_upto_region 8 with fail;clear d0 d1 d2;obtain ⟨gl,hgl⟩:∃ z,wr.heap.size = z:=⟨_,rfl⟩;have hxb:=Ext.box wr (.cells #[.string nm,.int .i64 ar,.int .i64 li] 105);have hkb:=Blk.made wr 105 #[.string nm,.int .i64 ar,.int .i64 li];obtain ⟨W7,hW7⟩:∃ z,wr.alloc (.cells #[.string nm,.int .i64 ar,.int .i64 li] 105) = z:=⟨_,rfl⟩;rw [hW7,hgl] at hkb;rw [hW7] at hxb ⊢;rw [hgl];have KL:=Lib.hid hkb;have HXB:=Lib.hid hxb;have hdr:=(Ext.refl W7).drew;clear hW7 hxb hkb hgl;refine Flow.Q1q [.p,.w,.w,.p,.w,.p,.p,.w,.w,.w,.p,.w,.w,.p,.w,.w,.w,.w,.p] [0,1,2,3,4,5,6,7,8,9,10,11,12,13,14,15,16,17,18] [[],[0],[1],[2],[2,3],[],[],[6],[5,7],[4,8],[],[10],[9,11],[],[13],[12,14],[4,9,12,15],[15,16],[0,1,2,3,4,5,6,7,8,9,10,11,12,13,14,15,16,17]]
      [.c 0 (.pointer (some ⟨gl,0,none⟩)),.c 1 (.string nm),.c 2 (.bool true),.c 3 (.bool (!true)),.c 4 (.int .i64 0),.c 5 (.map (some b)),.c 6 (.pointer (some ⟨gl,0,none⟩)),.c 7 (.string nm),.c 8 (.bool false),.c 9 (.int .i64 0),.c 10 (.pointer (some ⟨gl,1,none⟩)),.c 11 (.int .i64 ar),.c 12 (.int .i64 0),.c 13 (.pointer (some ⟨gl,2,none⟩)),.c 14 (.int .i64 li),.c 15 (.int .i64 0),⟨fun v wz=>Q0e wz (v 16) [0,0,0,0],fun _ _ _ hx h=>h.ext hx⟩,.c 17 (.int .i64 0),.c 18 (.int .i64 0)]
      (by kernel_rfl) rfl (by kernel_rfl) ⟨?g0,?g1,?g2,?g3,?g4,?g5,?g6,?g7,?g8,?g9,?g10,?g11,?g12,?g13,?g14,?g15,?g16,?g17,?g18,trivial⟩ ?post
     case g0 | g5 | g6 | g10 | g13=>
      intro v w1 hx;intro bb hbb;subst hbb;refine ⟨_,fun w=>?_,rfl⟩;go_simp
     case g1 | g7 | g11 | g14=>
      intro v w1 hx;(repeat intro (zq:v _ = _));intro bb hbb;subst hbb;have n0:w1.cell? ⟨gl,0,none⟩ = some (.string nm):=(KL.out.ext (hdr.trans hx)).cell 0;have n1:w1.cell? ⟨gl,1,none⟩ = some (.int .i64 ar):=(KL.out.ext (hdr.trans hx)).cell 1;have n2:w1.cell? ⟨gl,2,none⟩ = some (.int .i64 li):=(KL.out.ext (hdr.trans hx)).cell 2;intro K hK;go_simp;exact hK _ _ (Ext.refl _) rfl
     case g2=>
      intro v w1 hx;(repeat intro (zq:v _ = _));intro bb hbb;subst hbb;intro K hK;go_simp;refine Q0f (HNMB.out w1) ?_;rintro e w2 ⟨rfl,hx2⟩;exact ⟨_,rfl,hK _ _ hx2 rfl⟩
     case g3=>
      intro v w1 hx;(repeat intro (zq:v _ = _));intro bb hbb;subst hbb;refine ⟨_,fun w=>?_,rfl⟩;go_simp
     case g4=>
      intro v w1 hx;(repeat intro (zq:v _ = _));intro bb hbb;subst hbb;intro K hK;go_simp;refine Q0f (X3t w1 false 8 rfl) ?_;rintro e w2 ⟨rfl,rfl⟩;exact ⟨_,rfl,hK _ _ (Ext.refl _) rfl⟩
     case g8=>
      intro v w1 hx;(repeat intro (zq:v _ = _));intro bb hbb;subst hbb;have hlk:=HLK.out _ (HXB.out.trans (hdr.trans hx));intro K hK;go_simp;exact hK _ _ (Ext.refl _) rfl
     case g9=>
      intro v w1 hx;(repeat intro (zq:v _ = _));intro bb hbb;subst hbb;intro K hK;go_simp;refine Q0f (X3t w1 false 9 rfl) ?_;rintro e w2 ⟨rfl,rfl⟩;exact ⟨_,rfl,hK _ _ (Ext.refl _) rfl⟩
     case g12=>
      intro v w1 hx;(repeat intro (zq:v _ = _));intro bb hbb;subst hbb;intro K hK;go_simp;refine Q0f (X0k w1 ar 1 1000 HAR.out) ?_;rintro e w2 ⟨rfl,rfl⟩;exact ⟨_,rfl,hK _ _ (Ext.refl _) rfl⟩
     case g15=>
      intro v w1 hx;(repeat intro (zq:v _ = _));intro bb hbb;subst hbb;intro K hK;go_simp;refine Q0f (X0k w1 li 0 1024 HLI.out) ?_;rintro e w2 ⟨rfl,rfl⟩;exact ⟨_,rfl,hK _ _ (Ext.refl _) rfl⟩
     case g16=>
      intro v w1 hx;(repeat intro (zq:v _ = _));intro bb hbb;subst hbb;intro K hK;go_simp;exact hK _ _ (Ext.box _ _) (Q2l (l:=[0,0,0,0]) (by simp))
     case g17=>
      intro v w1 hx (q15:v 15 = _) (q16:Q0e w1 (v 16) [0,0,0,0]);intro bb hbb;subst hbb;intro K hK;go_simp;refine Q0f (Q7r w1 _ [0,0,0,0] q16 (by simp)) ?_
      rintro e w2 ⟨rfl,rfl⟩;exact ⟨_,rfl,hK _ _ (Ext.refl _) rfl⟩
     case g18=>
      intro v w1 hx (q0:v 0 = _) (q1:v 1 = _) (q2:v 2 = _) (q3:v 3 = _) (q4:v 4 = _) (q5:v 5 = _) (q6:v 6 = _) (q7:v 7 = _) (q8:v 8 = _) (q9:v 9 = _) (q10:v 10 = _) (q11:v 11 = _) (q12:v 12 = _) (q13:v 13 = _) (q14:v 14 = _) (q15:v 15 = _) _ (q17:v 17 = _);intro bb hbb;subst hbb;refine ⟨_,fun w=>?_,rfl⟩;go_simp
     case post =>
      intro v w1 hx;(iterate 16 intro (zq:v _ = _));intro (q16:Q0e w1 (v 16) [0,0,0,0]);(iterate 2 intro (zq:v _ = _));simp only [Flow.All,Flow.acts,Act.put];go_simp;have hxx:=HXB.out.trans (hdr.trans hx);obtain ⟨w9,hput,hm9,hb9,-⟩:=Q4g (P:=Tryz.prog) (HMPR.out.ext hxx) J0r Y6e nm (.bool true);have HM9:=Lib.hid hm9;have HL9:Hid (Below b W2 w9):=Lib.hid (Below.trans (Below.trans HLO.out (hxx.mono (Nat.le_of_lt HMPR.out.lt))) (hb9 b (Nat.le_refl _)));have c0:=(KL.out.ext (hdr.trans hx)).cell 0;simp only [Go.Tw.gA,Go.Tw.gB,Go.Tw.gC] at c0;clear hx hdr hxx hm9 hb9 q16 HLK HNMB KL HXB;(repeat clear zq);go_wp2;go_roundw
      case rel=>exact ⟨k + 1,by have:=HK.out; omega,by (try rw [HWK.out]); go_num,⟨_,HM9.out,HPUT.out⟩,HL9.out⟩
      case measure=>have:=HK.out; (try rw [HWK.out]); simp [intOf]; omega
   . obtain rfl:k = n:=by omega
     have hkI:¬ (k:Int) < (k:Int):=by omega
     have HKR:Hid (Blk wr g 40 #[.slice A k capa,.slice L m capl]):=Lib.hid ((HK1.out.ext HXM.out).below hlo (by have:=HB.out; have:=HG1.out; omega))
     have c1:=HKR.out.cell 1;simp only [Go.Tw.gA,Go.Tw.gB,Go.Tw.gC] at c1;have hgt:decide ((16:Int) < (m:Int)) = false:=by have:=HMB.out; simp; omega
     have hml:¬ (16:Int) < (m:Int):=by have:=HMB.out; omega
     have hkr:=HKR.out;rw [<- HN.out] at hkr;have hlk:=(H2.out.ext HXR.out).links;have hcall:=Y7f wr x _ _ g capa A hlk hkr HF.out.links (by rw [HM.out]; exact HMB.out)
     rw [HM.out] at hcall;have HCALL:=Lib.hid hcall;clear hmp hkn hlo hkr hlk hcall;go_wp2_with fail;refine HCALL.out.mono ?_;rintro e w4 ⟨r,rfl,hr,hx4⟩;have HX4:=Lib.hid (HXR.out.trans hx4);have HR:=Lib.hid hr;clear hr hx4 c1;go_wp2_with fail;refine (Q7r _ _ _ HR.out (fun y hy=>(List.mem_replicate.1 hy).2)).mono ?_;rintro e w5 ⟨rfl,hw⟩;subst hw;go_wp2;go_ret;exact ⟨rfl,HX4.out⟩
end Go.Proofs
namespace Go.Tw
open Go.RowKit Go.Flow
section
variable {α:Type} {enc:α -> List Value} {k:Nat}
def Q2n (cs:Array Value) (o:Nat):List Value -> Array Value
 | []=>cs
 | v :: vs=>Q2n (cs.setIfInBounds o v) (o + 1) vs
theorem X3u (o:Nat):∀ (vs:List Value) (cs:Array Value) ,(Q2n cs o vs).size = cs.size:=by
 intro vs
 induction vs generalizing o with
 | nil=>intro cs; rfl
 | cons v vs ih=>intro cs; rw [Q2n,ih]; simp
theorem Q4i:∀ (vs:List Value) (o:Nat) (cs:Array Value) (j:Nat),o + vs.length <= cs.size -> (Q2n cs o vs)[j]? = if o <= j /\ j < o + vs.length then vs[j - o]? else cs[j]?
 | [],o,cs,j,_=>by rw [Q2n,if_neg (by simp only [List.length_nil]; omega)]
 | v :: vs,o,cs,j,h=>by
   rw [List.length_cons] at h;rw [Q2n,Q4i vs (o + 1) _ j (by simp; omega)]
   by_cases h1:o + 1 <= j /\ j < o + 1 + vs.length
   . rw [if_pos h1,if_pos (by rw [List.length_cons]; omega),show j - o = (j - (o + 1)) + 1 from by omega]; rfl
   . rw [if_neg h1]
     by_cases h2:j = o
     . subst h2
       rw [if_pos (by rw [List.length_cons]; omega),Nat.sub_self]
       rw [Array.getElem?_setIfInBounds];rw [if_pos rfl,if_pos (by omega)]; rfl
     . rw [if_neg (by rw [List.length_cons]; omega),Array.getElem?_setIfInBounds,if_neg (fun e=>h2 e.symm)]
theorem Q6e {P:Program} {g off:Nat} {T:TypeId}:∀ (vs:List Value) (i:Nat) (w:World) (cs:Array Value),Blk w g T cs -> (∀ u ∈ vs,u.oneCell' = true) -> off + i + vs.length <= cs.size ->
    ∃ w',(storeCells ⟨g,off,none⟩ vs i).run P w = .ok () w' /\ Blk w' g T (Q2n cs (off + i) vs) /\ (∀ n,n <= g -> Below n w w') /\ ∀ k,k ≠ g -> w'.heap[k]? = w.heap[k]?
 | [],i,w,cs,h,_,hi=>⟨w,by simp [storeCells],h,fun _ _=>Below.refl _ _,fun _ _=>rfl⟩
 | v :: vs,i,w,cs,h,h1,hi=>by
   rw [List.length_cons] at hi;have hlt:off + i < cs.size:=by omega
   have h0:=h.cell (off + i);rw [Array.getElem?_eq_getElem hlt] at h0;have ea:(⟨g,off,none⟩:Addr).add i = ⟨g,off + i,none⟩:=by rw [addr_add]
   obtain ⟨w',hr,hb,hl,ho⟩:=Q6e (P:=P) (off:=off) vs (i + 1) (w.setCell ⟨g,off + i,none⟩ v) (cs.setIfInBounds (off + i) v) (h.set _ v) (fun u hu=>h1 u (List.mem_cons_of_mem _ hu)) (by rw [Array.size_setIfInBounds]; omega)
   refine ⟨w',?_,?_,fun n hn=>Below.trans ((Below.refl n w).setCell (p:=⟨g,off + i,none⟩) hn v) (hl n hn),fun k hk=>(ho k hk).trans (Below.heap_setCell _ _ _ _ hk)⟩
   . rw [storeCells,ea]
     simp only [Sem.run_bind,run_store P w _ v _ (h1 v (List.mem_cons_self ..)),h0,h.frozen (off + i),Bool.false_eq_true,if_false,Result.andThen_ok];exact hr
   . rw [Q2n]; exact hb
theorem X7b {P:Program} {K:Value -> World -> Prop} {o:Oper} {a:Act} {w:World} (p x:Operand) (T:TypeId) (ho:o.op = .store T p x)
    {n:Nat} (hS:∀ w,(sizeOf T).run P w = .ok n w) {g off:Nat} (hp:a.eval p = .pointer (some ⟨g,off,none⟩)) {BT:TypeId} {cs vs:Array Value} (hx:a.eval x = .agg vs) (hb:Blk w g BT cs) (hn:off + n <= cs.size) (hv:vs.size = n) (h1:∀ u ∈ vs.toList,u.oneCell' = true)
    (h:∀ v w',Blk w' g BT (Q2n cs off vs.toList) -> (∀ n,n <= g -> Below n w w') -> (∀ k,k ≠ g -> w'.heap[k]? = w.heap[k]?) -> K v w'):gives P K ((execOp a.eval o).run P w):=by
 obtain ⟨w',hr,hb',hl,hoo⟩:=Q6e (P:=P) (off:=off) vs.toList 0 w cs hb h1 (by simp [hv]; omega)
 have hs:(storeVar T ⟨g,off,none⟩ (.agg vs)).run P w = .ok () w':=by
  have hc:(Value.agg vs).cells = vs:=rfl;unfold storeVar;simp only [Sem.run_bind,hS,Result.andThen_ok];rw [if_neg (by rw [hc]; simp [hv])]
  exact hr
 have hr2:(execOp a.eval o).run P w = .ok .skip w':=by
  unfold execOp;simp only [ho,hp,hx,Instr.storeAt,Instr.sureAddr,Sem.run_bind,Sem.run_pure,Result.andThen_ok,hs]
 rw [hr2];exact h _ _ hb' hl hoo
theorem Y9s {P:Program} {w:World} (dT sT ty elem:TypeId) (hu:P.underlying dT = some (.slice elem)) {sz:Nat} (hs:∀ w,(sizeOf elem).run P w = .ok sz w) (n dcap scap:Nat) {g:Nat} {T:TypeId} {cur:Array Value} (hb:Blk w g T cur) (sp:Option Addr) (cs:List Value) (hlen:cs.length = n * sz)
    (hsrc:∀ j v,cs[j]? = some v -> ∃ b off,sp = some ⟨b,off,none⟩ /\ w.cell? ⟨b,off + j,none⟩ = some v) (hfit:cs.length <= cur.size) (h1:∀ v ∈ cs,v.oneCell' = true) :
    ∃ w',(Builtin.copy_ #[dT,sT] ty #[.slice (some ⟨g,0,none⟩) n dcap,.slice sp n scap]).run P w = .ok (goInt n) w' /\ Blk w' g T (Q2n cur 0 cs) /\ (∀ n,n <= g -> Below n w w') /\ ∀ k,k ≠ g -> w'.heap[k]? = w.heap[k]?:=by
 obtain ⟨w',hr,hb',hl,hoo⟩:=Q6e (P:=P) (off:=0) cs 0 w cur hb h1 (by simp; exact hfit)
 refine ⟨w',?_,hb',hl,hoo⟩;have hfc:(Builtin.firstCells sz n (.slice sp n scap)).run P w = .ok cs.toArray w:=by
  cases sp with
  | none =>
    have:cs = []:=by
     cases cs with
     | nil=>rfl
     | cons v vs=>obtain ⟨b,off,he,_⟩:=hsrc 0 v rfl; cases he
    subst this;simp [Builtin.firstCells]
  | some ad =>
    have hl2:=run_loadCells_list (P:=P) w ad cs (fun j v hv=>by
     obtain ⟨b,off,he,hc⟩:=hsrc j v hv;cases he;rw [addr_add]; exact hc)
    rw [hlen] at hl2
    simpa [Builtin.firstCells] using hl2
 simp [Builtin.copy_,run_underlying hu,Builtin.lenOf,hs,hfc,hr]
end
end Go.Tw
namespace Go.Proofs
open Go.RowKit Go.Tw Go.Flow
attribute [local go_sem] Oper.semAt_some
theorem X3i (cur:Array Value) (vs:List Value) (h:vs.length = cur.size):Q2n cur 0 vs = vs.toArray:=by
 apply Array.ext_getElem?
 intro j;rw [Q4i _ _ _ _ (by omega)]
 by_cases hj:j < vs.length
 . rw [if_pos (by omega),Nat.sub_zero,List.getElem?_toArray]
 . rw [if_neg (by omega),Array.getElem?_eq_none (show cur.size <= j by omega)]
   symm
   rw [Array.getElem?_eq_none];rw [List.size_toArray]; omega
theorem Q9c {P:Program} {w:World} {ops:Array Oper} {rest:List Oper} {o:Oper} {a:Act} {Q:Exit -> Act -> World -> Prop} (hgd:o.guard = none) (d s:Operand) (dT sT:TypeId) (ho:o.op = .call { callee:=.builtin .copy,args:=#[d,s],argTypes:=#[dT,sT] })
    (elem:TypeId) (hu:P.underlying dT = some (.slice elem)) {sz:Nat} (hs:∀ w,(sizeOf elem).run P w = .ok sz w) {n dcap scap:Nat} {g:Nat} {sp:Option Addr} (hd:a.eval d = .slice (some ⟨g,0,none⟩) n dcap) (hsv:a.eval s = .slice sp n scap)
    {T:TypeId} {cur:Array Value} (hb:Blk w g T cur) (cs:List Value) (hlen:cs.length = n * sz) (hsrc:∀ j v,cs[j]? = some v -> ∃ b off,sp = some ⟨b,off,none⟩ /\ w.cell? ⟨b,off + j,none⟩ = some v) (hfit:cs.length <= cur.size) (h1:∀ v ∈ cs,v.oneCell' = true)
    (hK:∀ w',Blk w' g T (Q2n cur 0 cs) -> (∀ n,n <= g -> Below n w w') -> (∀ k,k ≠ g -> w'.heap[k]? = w.heap[k]?) -> wpList P ops Q rest (a.put o.dst (goInt n)) w'):wpList P ops Q (o :: rest) a w:=by
 refine wpList_plain hgd fun K' hK'=>?_;unfold Oper.wp;obtain ⟨w',hr,hb',hl,hoo⟩:=Y9s (P:=P) dT sT o.type elem hu hs n dcap scap hb sp cs hlen hsrc hfit h1;have hr2:(execOp a.eval o).run P w = .ok (.value (goInt n)) w':=by
  unfold execOp;simp only [ho,resolve,invoke,builtin,Sem.run_bind,Sem.run_pure,Result.andThen_ok,List.map_toArray,List.map_cons,List.map_nil,hd,hsv,hr]
 rw [hr2];exact hK' _ _ (hK w' hb' hl hoo)
end Go.Proofs
namespace Go.Tw
open Go.RowKit Go.Flow
def idV (x:Value):Value:=x
def Reads (w:World) (vs:List Value) (ll:List (List Int)):Prop:=vs.length = ll.length /\ ∀ i,i < ll.length -> Q0e w (vs.getD i undef) (ll.getD i [])
theorem Reads.ext {w w':World} {vs:List Value} {ll:List (List Int)} (h:Reads w vs ll) (hx:Ext w w'):Reads w' vs ll:=⟨h.1,fun i hi=>(h.2 i hi).ext hx⟩
theorem Q0e.below {w w':World} {B:Nat} {v:Value} {l:List Int} (h:Q0e w v l) (hb:Below B w w') (hlow:∀ b o c,v = .slice (some ⟨b,o,none⟩) l.length c -> l ≠ [] -> b < B):Q0e w' v l:=by
 obtain ⟨c,⟨A,cap,hv,hn,hcap,hc⟩,h2⟩:=h;refine ⟨c,⟨A,cap,hv,hn,hcap,fun j hj=>?_⟩,h2⟩;obtain ⟨b,off,hA,h⟩:=hc j hj;refine ⟨b,off,hA,?_⟩;have:b < B:=hlow b off cap (by rw [hv,hA]) (fun e=>by rw [e] at hj; simp at hj)
 exact (hb.cell (p:=⟨b,off + j,none⟩) this).trans h
theorem Reads.snoc {w:World} {vs:List Value} {ll:List (List Int)} {v:Value} {l:List Int} (h:Reads w vs ll) (hv:Q0e w v l):Reads w (vs ++ [v]) (ll ++ [l]):=by
 refine ⟨by simp [h.1],fun i hi=>?_⟩
 rw [List.length_append,List.length_singleton] at hi
 by_cases hlt:i < ll.length
 . have e1:(vs ++ [v]).getD i undef = vs.getD i undef:=by simp [List.getElem?_append_left (show i < vs.length by rw [h.1]; exact hlt)]
   have e2:(ll ++ [l]).getD i [] = ll.getD i []:=by simp [List.getElem?_append_left hlt]
   rw [e1,e2]; exact h.2 i hlt
 . have e:i = ll.length:=by omega
   have e1:(vs ++ [v]).getD i undef = v:=by rw [e,<- h.1]; simp
   have e2:(ll ++ [l]).getD i [] = l:=by rw [e]; simp
   rw [e1,e2]; exact hv
theorem Q0i.J8o {w:World} {base:Nat} {e:TypeId} {v:Value} {vs:List Value} {ll:List (List Int)} (h:Q0i w base e idV v vs) (hr:Reads w vs ll) (hl:ll.length <= 17592186043904):Q4z w v ll:=by
 refine ⟨fun k=>vs.getD k undef,?_,fun j hj=>?_⟩
 . rw [<- hr.1]
   exact h.row (by rw [hr.1]; exact hl) _ (fun k hk=>by simp [hk,idV])
 . have:=hr.2 j hj
   rw [Q0y _ hj] at this
   simpa using this
theorem Q4z.opened {w:World} {v:Value} {ll:List (List Int)} (h:Q4z w v ll) :
    ∃ A cap,v = .slice A ll.length cap /\ ll.length <= 17592186043904 /\ ll.length <= cap /\ ∀ k,k < ll.length -> ∃ b off m,A = some ⟨b,off,none⟩ /\ b < w.heap.size /\ w.cell? ⟨b,off + k,none⟩ = some m /\ Q0e w m (ll.getD k []):=by
 obtain ⟨c,⟨A,cap,hv,hn,hcap,hc⟩,h2⟩:=h;refine ⟨A,cap,hv,hn,hcap,fun k hk=>?_⟩;obtain ⟨b,off,hA,h⟩:=hc k (by omega)
 refine ⟨b,off,c k,hA,World.block_lt_of_cell? w _ h,h,?_⟩;have:=h2 k hk;simp only [Nat.mul_one,Nat.add_zero] at this;rw [Q0y _ hk]; exact this
theorem Q0i.cells {α:Type} {w:World} {base:Nat} {e:TypeId} {enc:α -> Value} {v:Value} {xs:List α} (h:Q0i w base e enc v xs) :
    ∃ A c,v = .slice A xs.length c /\ xs.length <= c /\ (∀ j (hj:j < xs.length),∃ g,A = some ⟨g,0,none⟩ /\ base <= g /\ g < w.heap.size /\ w.cell? ⟨g,0 + j,none⟩ = some (enc xs[j])):=by
 obtain ⟨_,h2⟩:=h
 rcases h2 with ⟨rfl,h0⟩ | ⟨g,cap,cur,rfl,hb,hg,hcap,_,_,htake⟩
 . exact ⟨none,0,by rw [h0],by omega,fun j hj=>by omega⟩
 . refine ⟨some ⟨g,0,none⟩,cap,rfl,hcap,fun j hj=>⟨g,rfl,hb,(Array.getElem?_eq_some_iff.1 hg).1,?_⟩⟩
   rw [Nat.zero_add];have h1:=congrArg (fun l=>l[j]?) htake;simp only [Nat.mul_one,List.getElem?_take,hj,if_true,List.getElem?_map,List.getElem?_eq_getElem hj,Option.map_some] at h1;simp only [World.cell?,hg]
   simpa using h1
theorem Q0i.cells2 {α:Type} {w:World} {base:Nat} {e:TypeId} {enc:α -> Value} {v:Value} {xs:List α} (h:Q0i w base e enc v xs) :
    (v = .slice none 0 0 /\ xs = []) ∨ ∃ g c,v = .slice (some ⟨g,0,none⟩) xs.length c /\ xs.length <= c /\ base <= g /\ g < w.heap.size /\ ∀ j (hj:j < xs.length),w.cell? ⟨g,0 + j,none⟩ = some (enc xs[j]):=by
 obtain ⟨_,h2⟩:=h
 rcases h2 with ⟨rfl,h0⟩ | ⟨g,cap,cur,rfl,hb,hg,hcap,_,_,htake⟩
 . exact .inl ⟨rfl,List.length_eq_zero_iff.1 h0⟩
 . refine .inr ⟨g,cap,rfl,hcap,hb,(Array.getElem?_eq_some_iff.1 hg).1,fun j hj=>?_⟩
   rw [Nat.zero_add];have h1:=congrArg (fun l=>l[j]?) htake;simp only [Nat.mul_one,List.getElem?_take,hj,if_true,List.getElem?_map,List.getElem?_eq_getElem hj,Option.map_some] at h1;simp only [World.cell?,hg]
   simpa using h1
theorem Q0i.weaken {α:Type} {w:World} {base base':Nat} {e:TypeId} {enc:α -> Value} {v:Value} {xs:List α} (h:Q0i w base e enc v xs) (hb:base' <= base):Q0i w base' e enc v xs:=by
 obtain ⟨h1,h2⟩:=h;refine ⟨h1,?_⟩
 rcases h2 with h2 | ⟨g,cap,cur,hv,hbg,r⟩
 . exact .inl h2
 . exact .inr ⟨g,cap,cur,hv,Nat.le_trans hb hbg,r⟩
theorem Q0e.one {w:World} {v:Value} {l:List Int} (h:Q0e w v l):(idV v).oneCell' = true:=by
 obtain ⟨A,cap,rfl,_⟩:=h.opened;rfl
theorem Q0e.cells {w:World} {v:Value} {l:List Int} (h:Q0e w v l):v.cells = #[v]:=by
 obtain ⟨A,cap,rfl,_⟩:=h.opened;rfl
theorem Reads.one {w:World} {vs:List Value} {ll:List (List Int)} (h:Reads w vs ll):∀ y ∈ vs,(idV y).oneCell' = true:=by
 intro y hy;obtain ⟨i,hi,rfl⟩:=List.getElem_of_mem hy;have:=h.2 i (by rw [<- h.1]; exact hi)
 rw [Q0y _ hi] at this;exact this.one
def Q0v (w:World) (v:Value) (B:Nat) (e:TypeId):Prop:=∃ g,v = .slice (some ⟨g,0,none⟩) 0 0 /\ B <= g /\ w.heap[g]? = some (.cells #[] e (0,0))
theorem Q0v.ext {w w':World} {v:Value} {B:Nat} {e:TypeId} (h:Q0v w v B e) (hx:Ext w w'):Q0v w' v B e :=
 let ⟨g,h1,h2,h3⟩:=h; ⟨g,h1,h2,(Below.block hx g (Array.getElem?_eq_some_iff.1 h3).1).trans h3⟩
theorem Q0v.made (w:World) (B:Nat) (e:TypeId) (h:B <= w.heap.size):Q0v (w.alloc (.cells #[] e)) (.slice (some ⟨w.heap.size,0,none⟩) 0 0) B e:=⟨_,rfl,h,heap_alloc_new w _⟩
def Q7z (w:World) (v:Value) (x:Value):Prop:=∃ g,v = .slice (some ⟨g,0,none⟩) 1 1 /\ w.cell? ⟨g,0,none⟩ = some x
theorem Q7z.ext {w w':World} {v x:Value} (h:Q7z w v x) (hx:Ext w w'):Q7z w' v x:=let ⟨g,h1,h2⟩:=h; ⟨g,h1,hx.cell h2⟩
theorem Q7z.made (w:World) (x:Value) (e:TypeId):Q7z (w.alloc (.cells #[x] e)) (.slice (some ⟨w.heap.size,0,none⟩) 1 1) x:=⟨_,rfl,Y5o _ _ _ _⟩
theorem Q7z.src {w:World} {v x:Value} (h:Q7z w v x):Src w idV v [x]:=by
 obtain ⟨g,rfl,hc⟩:=h;refine ⟨_,_,rfl,fun j hj=>⟨g,0,rfl,?_⟩⟩;obtain rfl:j = 0:=by rw [List.length_singleton] at hj; omega
 exact hc
theorem Q0e.made (w:World) (xs:List Int) (e:TypeId) (h:xs.length <= 17592186043904):Q0e (w.alloc (.cells (xs.map (Value.int .i64)).toArray e)) (.slice (some ⟨w.heap.size,0,none⟩) xs.length xs.length) xs:=by
 refine ⟨fun k=>((xs.map (Value.int .i64))[k]?).getD undef,⟨_,_,rfl,h,Nat.le_refl _,fun j hj=>⟨_,0,rfl,?_⟩⟩,fun j hj=>?_⟩
 . have hj':j < xs.length:=by omega
   rw [Nat.zero_add,Y5o];simp [hj']
 . simp [hj]
end Go.Tw
namespace Go.Tw
open Go.RowKit
def Q1x (p:Prop):Prop:=p
theorem halted {p:Prop} (h:Q1x p):p:=h
def Q7d:World -> Value -> List (List Bool) -> Prop:=Rows 1 fun w c x=>Q2k w (c 0) x
theorem Q7d.ext {w w':World} {v:Value} {l:List (List Bool)} (h:Q7d w v l) (hx:Ext w w'):Q7d w' v l:=Rows.ext (fun _ _ _ _ hx h=>h.ext hx) h hx
theorem Q7d.opened {w:World} {v:Value} {ll:List (List Bool)} (h:Q7d w v ll) :
    ∃ A cap,v = .slice A ll.length cap /\ ll.length <= 17592186043904 /\ ll.length <= cap /\ ∀ k,k < ll.length -> ∃ b off x,A = some ⟨b,off,none⟩ /\ b < w.heap.size /\
     w.cell? ⟨b,off + k,none⟩ = some x /\ Q2k w x (ll.getD k []):=by
 obtain ⟨c,⟨A,cap,hv,hn,hcap,hc⟩,h2⟩:=h;refine ⟨A,cap,hv,by omega,by omega,fun k hk=>?_⟩
 obtain ⟨b,off,hA,h0⟩:=hc k (by omega)
 refine ⟨b,off,c k,hA,World.block_lt_of_cell? w _ h0,h0,?_⟩;have h3:=h2 k hk;rw [Q0y _ hk]
 simpa using h3
def X1e (w:World) (vs:List Value) (ll:List (List Bool)):Prop:=vs.length = ll.length /\ ∀ i,i < ll.length -> Q2k w (vs.getD i undef) (ll.getD i [])
theorem X1e.nil (w:World):X1e w [] []:=⟨rfl,fun _ hi=>absurd hi (Nat.not_lt_zero _)⟩
theorem X1e.ext {w w':World} {vs:List Value} {ll:List (List Bool)} (h:X1e w vs ll) (hx:Ext w w'):X1e w' vs ll:=⟨h.1,fun i hi=>(h.2 i hi).ext hx⟩
theorem X1e.snoc {w:World} {vs:List Value} {ll:List (List Bool)} {v:Value} {l:List Bool} (h:X1e w vs ll) (hv:Q2k w v l):X1e w (vs ++ [v]) (ll ++ [l]):=by
 refine ⟨by simp [h.1],fun i hi=>?_⟩
 by_cases hlt:i < ll.length
 . have e1:(vs ++ [v]).getD i undef = vs.getD i undef:=by simp [List.getD_eq_getElem?_getD,List.getElem?_append_left (show i < vs.length by rw [h.1]; exact hlt)]
   have e2:(ll ++ [l]).getD i [] = ll.getD i []:=by simp [List.getD_eq_getElem?_getD,List.getElem?_append_left hlt]
   rw [e1,e2]; exact h.2 i hlt
 . have he:i = ll.length:=by simp at hi; omega
   subst he;have e1:(vs ++ [v]).getD ll.length undef = v:=by rw [<- h.1]; simp
   have e2:(ll ++ [l]).getD ll.length [] = l:=by simp
   rw [e1,e2]; exact hv
theorem Q0i.J8l {w:World} {base:Nat} {e:TypeId} {v:Value} {vs:List Value} {ll:List (List Bool)} (h:Q0i w base e idV v vs) (hr:X1e w vs ll) (hl:ll.length <= 17592186043904):Q7d w v ll:=by
 refine ⟨fun k=>vs.getD k undef,?_,fun j hj=>?_⟩
 . rw [<- hr.1]
   exact h.row (by rw [hr.1]; exact hl) _ (fun k hk=>by simp [hk,idV])
 . have:=hr.2 j hj
   rw [Q0y _ hj] at this
   simpa using this
theorem Y3b {α β:Type} {w w':World} {b1 b2:Nat} {T E:TypeId} {enc:α -> Value} {enc':β -> Value} {u v:Value} {l:List α} {us:List β} (h:Q0i w b1 T enc u l) (ho:Q0i w b2 E enc' v us) (hTE:T ≠ E) (hg:w.grownBy w' v.ownBlock):Q0i w' b1 T enc u l:=by
 obtain ⟨h1,h2⟩:=h;refine ⟨h1,?_⟩
 rcases h2 with h2 | ⟨g,cap,cur,hv,hbg,hgl,r⟩
 . exact .inl h2
 . refine .inr ⟨g,cap,cur,hv,hbg,(hg.block g (Array.getElem?_eq_some_iff.1 hgl).1 fun e=>?_).trans hgl,r⟩
   obtain ⟨o1,o2⟩:=ho
   rcases o2 with ⟨rfl,_⟩ | ⟨g',cap',cur',rfl,_,hg',_⟩
   . cases e
   . obtain rfl:g' = g:=by simpa [Value.ownBlock,eq_comm] using e
     rw [hgl] at hg';injection hg' with h;injection h with _ h;exact hTE h
def X0v {α:Type} (w:World) (T:TypeId) (enc:α -> Value) (vs:List Value) (ll:List (List α)):Prop:=vs.length = ll.length /\ ∀ i,i < ll.length -> Q0i w 0 T enc (vs.getD i undef) (ll.getD i [])
section
variable {α:Type} {w w':World} {T:TypeId} {enc:α -> Value} {vs:List Value} {ll:List (List α)}
theorem X0v.nil (w:World) (T:TypeId) (enc:α -> Value):X0v w T enc [] []:=⟨rfl,fun _ hi=>absurd hi (Nat.not_lt_zero _)⟩
theorem X0v.ext (h:X0v w T enc vs ll) (hx:Ext w w'):X0v w' T enc vs ll:=⟨h.1,fun i hi=>(h.2 i hi).below hx⟩
theorem X0v.grown {β:Type} {b2:Nat} {E:TypeId} {enc':β -> Value} {v:Value} {us:List β} (h:X0v w T enc vs ll) (ho:Q0i w b2 E enc' v us) (hTE:T ≠ E) (hg:w.grownBy w' v.ownBlock):X0v w' T enc vs ll :=
 ⟨h.1,fun i hi=>Y3b (h.2 i hi) ho hTE hg⟩
theorem X0v.snoc {v:Value} {l:List α} {b:Nat} (h:X0v w T enc vs ll) (hv:Q0i w b T enc v l):X0v w T enc (vs ++ [v]) (ll ++ [l]):=by
 refine ⟨by simp [h.1],fun i hi=>?_⟩
 by_cases hlt:i < ll.length
 . have e1:(vs ++ [v]).getD i undef = vs.getD i undef:=by simp [List.getD_eq_getElem?_getD,List.getElem?_append_left (show i < vs.length by rw [h.1]; exact hlt)]
   have e2:(ll ++ [l]).getD i [] = ll.getD i []:=by simp [List.getD_eq_getElem?_getD,List.getElem?_append_left hlt]
   rw [e1,e2]; exact h.2 i hlt
 . have he:i = ll.length:=by simp at hi; omega
   subst he;have e1:(vs ++ [v]).getD ll.length undef = v:=by rw [<- h.1]; simp
   have e2:(ll ++ [l]).getD ll.length [] = l:=by simp
   rw [e1,e2]; exact hv.weaken (Nat.zero_le _)
end
theorem X0v.J7r {w:World} {T:TypeId} {vs:List Value} {ll:List (List Bool)} (h:X0v w T .bool vs ll) (hl:∀ i,i < ll.length -> (ll.getD i []).length <= 17592186043904):X1e w vs ll:=⟨h.1,fun i hi=>(h.2 i hi).bools (hl i hi)⟩
end Go.Tw
namespace Go.Proofs
open Go.RowKit Go.Tw Go.Flow
attribute [local go_sem] Oper.semAt_some
theorem Tryz.Y4d (w:World):(sizeOf 3).run Tryz.prog w = .ok 1 w:=by kernel_rfl
theorem StB.low {w w':World} {go gb b M:Nat} {V:List Int} {q:Bool} (h:StB w go gb b V q) (hx:Below M w w') (h1:go < M) (h2:gb < M) (h3:b < M):StB w' go gb b V q:=⟨h.o.below hx h1,h.q.below hx h2,h.r.below hx h3⟩
theorem J2r (w:World) (vb vv vc:Value) (x:Q1j) (V:List Int) (c:Cond) (hv:Q2g w vb x) (hV:Q0e w vv V) (hc:Y2x w vc c) (hb:x.Ok) (hl:V.length = x.nodes.length) (hil:c.inflow.length = x.nodes.length) (hbn:Bnd V 100000000) (hib:∀ k,0 <= ix c.inflow k /\ ix c.inflow k <= 100000) (ht:-1024 <= c.tide /\ c.tide <= 1024) :
    Calls Tryz.prog 179 #[vb,vv,vc] w fun e w'=>∃ f b,e = .returned (.tuple #[f,.slice (some ⟨b,0,none⟩) x.nodes.length x.nodes.length,.bool (Q3w x V c).2.1]) /\ Q0i w' 0 3 (.int .i64) f (Q3w x V c).2.2 /\ Q0i w' 0 3 (.int .i64) (.slice (some ⟨b,0,none⟩) x.nodes.length x.nodes.length) (Q3w x V c).1 /\ Ext w w':=by
 obtain ⟨i0,hi,hz0,hz1,hz2⟩:=info_parts Tryz.info3;obtain ⟨va,vl,rfl,h2⟩:=hv;obtain ⟨A,capa,rfl,-,-,-⟩:=h2.nodes.opened;obtain ⟨L,capl,rfl,-,-,-⟩:=h2.links.opened;obtain ⟨vi,rfl,hxi⟩:=hc;obtain ⟨X,capx,rfl,-,-,-⟩:=hxi.opened;obtain ⟨VA,capv,rfl,-,-,hcv⟩:=hV.opened;have H2:=Lib.hid h2;have HXI:=Lib.hid hxi;have HOK:=Lib.hid hb;have HVB:=Lib.hid hbn;have HIB:=Lib.hid hib;have HTD:=Lib.hid ht;obtain ⟨n,hn⟩:∃ z,x.nodes.length = z:=⟨_,rfl⟩;obtain ⟨m,hm⟩:∃ z,x.links.length = z:=⟨_,rfl⟩;obtain ⟨td,htd⟩:∃ z,c.tide = z:=⟨_,rfl⟩;obtain ⟨op,hop⟩:∃ z,c.opn = z:=⟨_,rfl⟩;have HN:=Lib.hid hn;have HM:=Lib.hid hm;have HTO:=Lib.hid (And.intro htd hop);have HL:=Lib.hid (hl.trans hn);have HIL:=Lib.hid (hil.trans hn);have HN8:Hid (1 <= n /\ n <= 8):=Lib.hid (by rw [<- hn]; exact hb.some)
 have hn8:=HN8.out;rw [hl] at hcv ⊢;rw [hil];rw [hn] at hcv ⊢;rw [hm,htd,hop];have HCV:Hid (∀ j u,(V.map (Value.int .i64))[j]? = some u -> ∃ b off,VA = some ⟨b,off,none⟩ /\ w.cell? ⟨b,off + j,none⟩ = some u):=Lib.hid (fun j u hj=>by
  rw [List.getElem?_map] at hj;obtain ⟨y,hy,rfl⟩:=Option.map_eq_some_iff.1 hj;obtain ⟨hjl,rfl⟩:=List.getElem?_eq_some_iff.1 hy;obtain ⟨b,off,he,hcell⟩:=hcv j (by have:=HL.out; omega)
  exact ⟨b,off,he,by rw [hcell,Q5p hjl]⟩)
 have HFL:Hid ((V.map (Value.int .i64)).length = n * 1):=Lib.hid (by rw [List.length_map,HL.out]; omega)
 have HFS:Hid ((V.map (Value.int .i64)).length = (madeCells #[Value.int .i64 0] n).size):=Lib.hid (by rw [HFL.out]; simp [madeCells])
 have HONE:Hid (∀ u ∈ V.map (Value.int .i64),u.oneCell' = true):=Lib.hid (fun u hu=>by obtain ⟨y,_,rfl⟩:=List.mem_map.1 hu; rfl)
 clear hcv h2 hxi hb hbn hib ht hn hm htd hop hl hil hV;go_enter Tryz.func179,Tryz.ntmps179;go_wp2_with (refine Q1g (o:=⟨some 22,_,_,_,_,_⟩) rfl ?_; refine X5i (.tmp 21) _ _ rfl i0 _ 1 8 Tryz.underlying44 hi hz0 hz1 hz2 n rfl (by omega) (by decide) ?_; refine halted ?_)
 unfold Q1x;obtain ⟨W,hWW,k0,k1,k2,HXW,eW⟩:=Y3i w 40 #[.slice A n capa,.slice L m capl] 49 #[.int .i64 td,.bool op,.slice X n capx] 3 (madeCells #[.int .i64 0] n);rw [hWW];clear hWW;obtain ⟨g,hg⟩:∃ z,w.heap.size = z:=⟨_,rfl⟩;have HG:=Lib.hid hg;rw [hg] at k0 k1 k2 eW ⊢;obtain ⟨b,hb⟩:∃ z,g + 1 + 1 = z:=⟨_,rfl⟩;rw [hb] at k2 eW ⊢;have HB:=Lib.hid hb;have hxp:=Ext.box W (.cells #[.slice (some ⟨b,0,none⟩) n n] 44);have hbp:=Blk.made W 44 #[.slice (some ⟨b,0,none⟩) n n];go_upto_region 2 with fail;obtain ⟨go,hgo⟩:∃ z,b + 1 = z:=⟨_,rfl⟩;obtain ⟨W2,hwt⟩:∃ z,W.alloc (.cells #[.slice (some ⟨b,0,none⟩) n n] 44) = z:=⟨_,rfl⟩;rw [hwt,eW,hgo] at hbp;rw [hwt] at hxp;rw [hwt,hgo];have K0:=Lib.hid (k0.ext hxp);have K1:=Lib.hid (k1.ext hxp);have K2:=Lib.hid (k2.ext hxp);have KO:=Lib.hid hbp;have HGO:Hid (go = b + 1):=Lib.hid hgo.symm;have HX2:=Lib.hid (HXW.out.trans hxp);have c0:=hbp.cell 0;simp only [Go.Tw.gA,Go.Tw.gB] at c0;clear k0 k1 k2 hxp hbp hgo hwt eW hb hg;go_wp2_with (refine Q9c rfl (.tmp 23) (.tmp 24) _ _ rfl 3 Tryz.underlying44 (sz:=1) Tryz.Y4d (n:=n) (g:=b) rfl rfl K2.out (V.map (Value.int .i64)) (by rw [HFL.out]) (fun j u hj=>by obtain ⟨b',o',e1,e2⟩:=HCV.out j u hj; exact ⟨b',o',e1,HX2.out.cell e2⟩) (by rw [HFS.out]; exact Nat.le_refl _) HONE.out ?_; intro w4 hb4 hl4 ho4; refine halted ?_)
 unfold Q1x;rw [X3i _ _ HFS.out] at hb4;have hgb2:g + 1 < b:=by have:=HB.out; omega
 have HX4:Hid (Ext w w4):=Lib.hid (Below.trans HX2.out (hl4 _ (by have:=HG.out; omega)))
 have K04:=K0.out.below (hl4 b (Nat.le_refl _)) (by omega)
 have K14:=K1.out.below (hl4 b (Nat.le_refl _)) hgb2;have KO4:=Q9a KO.out (ho4 go (by have:=HGO.out; omega))
 have hgo4:=KO4.lt;have hxp:=Ext.box w4 (.cells #[.bool true] 4);have hbp:=Blk.made w4 4 #[.bool true];go_upto_region 5 with fail;obtain ⟨gb,hgb⟩:∃ z,w4.heap.size = z:=⟨_,rfl⟩;obtain ⟨W5,hwt⟩:∃ z,w4.alloc (.cells #[.bool true] 4) = z:=⟨_,rfl⟩;rw [hwt,hgb] at hbp;rw [hwt] at hxp;rw [hwt,hgb];rw [hgb] at hgo4;have HGB:Hid (g + 1 < b /\ b < go /\ go < gb):=Lib.hid (by have:=HGO.out; omega)
 have K05:=Lib.hid (K04.ext hxp);have K15:=Lib.hid (K14.ext hxp);have HST:Hid (StB W5 go gb b V true):=Lib.hid ⟨by rw [HL.out]; exact KO4.ext hxp,hbp,hb4.ext hxp⟩
 have HX5:=Lib.hid (HX4.out.trans hxp);have c2:=K15.out.cell 2;simp only [Go.Tw.gA,Go.Tw.gB,Go.Tw.gC] at c2;clear hb4 hl4 ho4 hgb2 K04 K14 KO4 hgo4 hxp hbp hwt hgb c0 K0 K1 K2 KO HX4 HX2;go_wp2_with fail;clear c2
 go_loopw [30] (fun iv wr=>∃ k:Nat,k <= n /\ iv = .int .i64 k /\ StB wr go gb b (Q8j V c.inflow k).1 (Q8j V c.inflow k).2 /\ Below b W5 wr) (fun iv _=>n - (intOf iv).toNat)
 case atStart=>exact ⟨0,Nat.zero_le _,rfl,HST.out,Below.refl _ _⟩
 case round =>
  obtain ⟨k,hk,rfl,hst,hlow⟩:=hrel;have HS:=Lib.hid hst;have HLO:=Lib.hid hlow;have HXR:Hid (Ext w wr):=Lib.hid (Below.trans HX5.out (hlow.mono (by have:=HG.out; have:=HGB.out; omega)))
  by_cases hlt:k < n
  . have hkI:(k:Int) < (n:Int):=by omega
    have HK:=Lib.hid hlt;have HWK:Hid (wrap64 ((k:Int) + 1) = (k:Int) + 1):=Lib.hid (by have:=HN8.out; unfold wrap64; omega)
    obtain ⟨X9,c9,h9,-,-,hcx⟩:=(HXI.out.ext HXR.out).opened;obtain ⟨bx,ox,hbx,hcell⟩:=hcx k (by rw [HIL.out]; exact hlt)
    injection h9 with k1 k2 k3;subst k1 k3;subst hbx;obtain ⟨hib1,hib2⟩:=X7n HVB.out HIB.out k (by rw [HL.out]; omega)
    have HBD:Hid (∀ j,j < (Q8j V c.inflow k).1.length -> -4000000000000000000 <= ix (Q8j V c.inflow k).1 j + ix c.inflow k /\ ix (Q8j V c.inflow k).1 j + ix c.inflow k <= 4000000000000000000):=Lib.hid (fun j _=>by have:=hib1 j; have:=HIB.out k; omega)
    have HIN:Hid ((k:Int) = -1 ∨ (0 <= (k:Int) /\ (k:Int) < (Q8j V c.inflow k).1.length)):=Lib.hid (.inr ⟨by omega,by rw [Q6w,HL.out]; exact hkI⟩)
    clear hcx hib1 hib2 hst hlow k2;go_wp2_with fail;refine (add_any _ (k:Int) (ix c.inflow k) go gb b _ _ HS.out HIN.out HBD.out).mono ?_;rintro e w6 ⟨rfl,hs6,htw⟩;have HS6:Hid (StB w6 go gb b (Q8j V c.inflow (k + 1)).1 (Q8j V c.inflow (k + 1)).2):=Lib.hid hs6;have HL6:=Lib.hid (HLO.out.trans (htw.1 b (by have:=HGB.out; omega) (Nat.le_refl _)))
    clear hs6 htw hcell;go_wp2;go_roundw
    case rel=>exact ⟨k + 1,by have:=HK.out; omega,by (try rw [HWK.out]); go_num,HS6.out,HL6.out⟩
    case measure=>have:=HK.out; (try rw [HWK.out]); simp [intOf]; omega
  . have hkI:¬ (k:Int) < (n:Int):=by omega
    have hke:n = k:=by omega
    subst hke;clear hkI hlt hk hst hlow HST;have HUB:Hid (Bnd (Q8j V c.inflow n).1 100100000):=Lib.hid (X7n HVB.out HIB.out n (by rw [HL.out]; exact Nat.le_refl _)).1
    have HEQ:Hid (Q3w x V c = Q5b x c (Q8j V c.inflow n).1 (Q8j V c.inflow n).2 m):=Lib.hid (by unfold Q3w; rw [HIL.out,HM.out])
    have HUL:Hid ((Q8j V c.inflow n).1.length = n):=Lib.hid ((Q6w _ _ _).trans HL.out);obtain ⟨U,hU⟩:∃ z,(Q8j V c.inflow n).1 = z:=⟨_,rfl⟩;obtain ⟨q,hq⟩:∃ z,(Q8j V c.inflow n).2 = z:=⟨_,rfl⟩;rw [hU,hq] at HEQ HS;rw [hU] at HUB HUL;clear hU hq HXI HVB HIB HL HIL HCV HFL HFS HONE;go_wp2_with fail;refine (table_any _).mono ?_;rintro e w6 ⟨tb,rfl,hm6,hx6⟩;have HX6:Hid (Ext w w6):=Lib.hid (HXR.out.trans hx6);have hgb:=HGB.out;have K06:=Lib.hid ((K05.out.below HLO.out (by omega)).ext hx6)
    have K16:=Lib.hid ((K15.out.below HLO.out (by omega)).ext hx6)
    have HS6:=Lib.hid (HS.out.ext hx6);have HM6:=Lib.hid hm6;have hs6:gb < w6.heap.size:=by have:=HS6.out.q.lt; omega
    have HB6:Hid (∃ B,w6.heap.size = B /\ gb < B /\ b < B /\ tb < B /\ go < B):=Lib.hid ⟨_,rfl,hs6,by omega,hm6.lt,by omega⟩
    have c1:=K06.out.cell 1;simp only [Go.Tw.gA,Go.Tw.gB,Go.Tw.gC] at c1;clear hm6 hx6 hgb hs6 K05 K15 HLO HS HX5 HXR;obtain ⟨B,hB,hB1,hB2,hB3,hB4⟩:=HB6.out;have HBS:=Lib.hid (And.intro hB1 (And.intro hB2 (And.intro hB3 hB4)));have HBB:=Lib.hid hB;clear hB hB1 hB2 hB3 hB4 HB6;go_wp2_with fail;clear c1
    go_loopw [14,44] (fun fv iv wr=>∃ k:Nat,k <= m /\ iv = .int .i64 k /\ StB wr go gb b (Q5b x c U q k).1 (Q5b x c U q k).2.1 /\ Q0i wr B 3 (.int .i64) fv (Q5b x c U q k).2.2 /\ Q2c wr tb X6p /\ Below b w6 wr) (fun _ iv _=>m - (intOf iv).toNat)
    case atStart=>exact ⟨0,Nat.zero_le _,rfl,HS6.out,Q0i.nil _ _ _ _,HM6.out,Below.refl _ _⟩
    case round =>
     obtain ⟨j,hj,rfl,hst,hown,hmap,hlow⟩:=hrel;have HS:=Lib.hid hst;have HOWN:=Lib.hid hown;have HMAP:=Lib.hid hmap;have HLO:=Lib.hid hlow;have HGBO:=HGB.out;have HXR:Hid (Ext w wr):=Lib.hid (Below.trans HX6.out (hlow.mono (by have:=HG.out; omega)))
     have HBR:Hid (B <= wr.heap.size):=Lib.hid (by have:=HBB.out; have:=hlow.size; omega)
     by_cases hlt:j < m
     . have hkI:(j:Int) < (m:Int):=by omega
       have HK:=Lib.hid hlt;have HWK:Hid (wrap64 ((j:Int) + 1) = (j:Int) + 1):=Lib.hid (by have:=HOK.out.many; have:=HM.out; unfold wrap64; omega)
       obtain ⟨L9,c9,h9,-,-,hcx⟩:=(H2.out.ext HXR.out).links.opened;obtain ⟨bx,ox,hbx,-,d0,d1,d2,d3,d4,-⟩:=hcx j (by rw [HM.out]; exact hlt)
       rw [HM.out] at h9;injection h9 with k1 k2 k3;subst k1 k3;subst hbx;obtain ⟨l,hl⟩:∃ z,lk x.links j = z:=⟨_,rfl⟩;rw [hl] at d0 d1 d2 d3 d4;obtain ⟨kd,lf,lt,la,lr⟩:=l;obtain ⟨nd,fl,hlr⟩:=J9x HOK.out HTD.out (HUL.out.trans HN.out.symm) HUB.out q (j:=j) (by rw [HM.out]; exact hlt) hl
       have HLR:=Lib.hid hlr;have HND:Hid (nd < n):=Lib.hid (by rw [<- HN.out]; exact hlr.inN)
       dsimp only at d0 d1 d2 d3 d4;clear hcx hl hst hown hmap hlow k2 HGBO hlt hj hlr;go_upto_region 15 with fail;clear d0 d1 d2 d3 d4;obtain ⟨gl,hgl⟩:∃ z,wr.heap.size = z:=⟨_,rfl⟩;have hxb:=Ext.box wr (.cells (lkC kd lf lt la lr) 106);have hkb:=Blk.made wr 106 (lkC kd lf lt la lr);obtain ⟨W7,hW7⟩:∃ z,wr.alloc (.cells (lkC kd lf lt la lr) 106) = z:=⟨_,rfl⟩;rw [hW7,hgl] at hkb;rw [hW7] at hxb ⊢;rw [hgl];have HKB:=Lib.hid hkb;have HXB:=Lib.hid hxb;have HGL:=Lib.hid hgl;have c0:=(hkb).cell 0;have c1:=(hkb).cell 1;have c2:=(hkb).cell 2;have c3:=(hkb).cell 3;have c4:=(hkb).cell 4;simp only [Go.Tw.gA,Go.Tw.gB,Go.Tw.gC] at c0 c1 c2 c3 c4;clear hW7 hxb hkb hgl;go_wp2_with fail;refine (J3j _ kd lf lt la lr).mono ?_;rintro e w8 ⟨rfl,hx8⟩;rw [HLR.out.node];have HXX:=Lib.hid (HXB.out.trans hx8);have HKL:=Lib.hid (HKB.out.ext hx8);clear c0 c1 c2 c3 c4 hx8 HKB HXB;go_upto_region 16 with fail;obtain ⟨A9,p9,g9,-,-,hcn⟩:=(H2.out.ext (HXR.out.trans HXX.out)).nodes.opened;obtain ⟨bn,on,hbn,-,-,e1,-,-⟩:=hcn nd (by rw [HN.out]; exact HND.out)
       rw [HN.out] at g9;injection g9 with k1 k2 k3;subst k1 k3;subst hbn;obtain ⟨ar,har⟩:∃ z,Q6m x.nodes nd = z:=⟨_,rfl⟩;obtain ⟨Uj,hUj⟩:∃ z,(Q5b x c U q j).1 = z:=⟨_,rfl⟩;obtain ⟨u,hu⟩:∃ z,ix Uj nd = z:=⟨_,rfl⟩;have HUJ:Hid (Uj.length = n):=Lib.hid (by rw [<- hUj,Q4n]; exact HUL.out)
       have hgb:=HGB.out;have H06:=Lib.hid ((K06.out.below HLO.out (by omega)).ext HXX.out)
       have H16:=Lib.hid ((K16.out.below HLO.out (by omega)).ext HXX.out)
       have HS8:=HS.out.ext HXX.out;rw [hUj] at HS8;have HO8:Hid (Blk w8 go 44 #[.slice (some ⟨b,0,none⟩) n n]):=Lib.hid (by have:=HS8.o; rw [HUJ.out] at this; exact this)
       have HR8:Hid (w8.cell? ⟨b,nd,none⟩ = some (.int .i64 u)):=Lib.hid (by rw [<- hu]; exact X2q HS8.r (by rw [HUJ.out]; exact HND.out))
       have HM8:=Lib.hid (HMAP.out.ext HXX.out);rw [har] at e1;have HE1:=Lib.hid e1;have HFL:Hid (∀ W,Calls Tryz.prog (X5e kd) #[plV kd lf lt la lr u ar td op] W fun e w'=>e = .returned (.int .i64 fl) /\ Ext W w'):=Lib.hid (fun W=>by
        have h1:=HLR.out.flow;have h2:=HLR.out.pl;rw [hUj,hu,har,HTO.out.1] at h1 h2;rw [HTO.out.2] at h1;rw [<- h1];exact J4b W ⟨kd,lf,lt,la,lr⟩ HLR.out.kind u ar td op h2)
       have HUU:=Lib.hid hUj;clear hcn k2 e1 har hu hUj hgb HS8;have hdr:=(Ext.refl w8).drew;refine Flow.Q1q [.p,.p,.w,.w,.p,.w,.w,.p,.p,.w,.p,.w,.p,.p,.p,.w,.p,.w,.p,.w,.p,.w,.p] [0,1,2,3,4,5,6,7,8,9,10,11,12,13,14,15,16,17,18,19,20,21,22] [[],[],[1],[0,2],[3],[],[],[],[6,7],[8],[],[10],[],[11,12],[13],[14],[],[16],[],[18],[5,9,15,17,19],[4,20],[0,1,2,3,4,5,6,7,8,9,10,11,12,13,14,15,16,17,18,19,20,21]]
        [.c 0 (.map (some tb)),.c 1 (.pointer (some ⟨gl,0,none⟩)),.c 2 (.string kd),.c 3 (kdV (J5i kd) (J4m kd) (X5e kd)),.c 4 (.func (.func (X5e kd)) #[] #[]),.c 5 (lkV kd lf lt la lr),.c 6 (.slice (some ⟨b,0,none⟩) n n),.c 7 (.int .i64 (nd:Nat)),.c 8 (.pointer (some ⟨b,nd,none⟩)),.c 9 (.int .i64 u),.c 10 (.pointer (some ⟨g,0,none⟩)),.c 11 (.slice (some ⟨bn,on,none⟩) n capa),.c 12 (.int .i64 (nd:Nat)),.c 13 (.pointer (some ⟨bn,on + nd * 3,none⟩)),.c 14 (.pointer (some ⟨bn,on + nd * 3 + 1,none⟩)),.c 15 (.int .i64 ar),.c 16 (.pointer (some ⟨g + 1,0,none⟩)),.c 17 (.int .i64 td),.c 18 (.pointer (some ⟨g + 1,1,none⟩)),.c 19 (.bool op),.c 20 (plV kd lf lt la lr u ar td op),.c 21 (.int .i64 fl),.c 22 (.int .i64 fl)]
        (by kernel_rfl) rfl (by kernel_rfl) ⟨?g0,?g1,?g2,?g3,?g4,?g5,?g6,?g7,?g8,?g9,?g10,?g11,?g12,?g13,?g14,?g15,?g16,?g17,?g18,?g19,?g20,?g21,?g22,trivial⟩ ?post
       case g0=>
        intro v w1 hx;intro bb hbb;have fo0:bb.eval (.tmp 15) = .map (some tb):=by rw [hbb]; dsimp only; (try simp (discharger:=decide) only [Flow.eval_put_ne,Flow.Q0c]); rfl
        clear hbb;refine ⟨_,fun w=>?_,rfl⟩;unfold execOp;simp only [fo0];clear fo0;go_simp
       case g1=>
        intro v w1 hx;intro bb hbb;have fo0:bb.eval (.tmp 17) = .pointer (some ⟨gl,0,none⟩):=by rw [hbb]; dsimp only; (try simp (discharger:=decide) only [Flow.eval_put_ne,Flow.Q0c]); rfl
        clear hbb;refine ⟨_,fun w=>?_,rfl⟩;unfold execOp;simp only [fo0];clear fo0;go_simp
       case g2=>
        intro v w1 hx;(repeat intro (zq:v _ = _));intro bb hbb;have n0:w1.cell? ⟨gl,0,none⟩ = some (.string kd):=(HKL.out.ext (hdr.trans hx)).cell 0;have fo0:bb.eval (.tmp 51) = .pointer (some ⟨gl,0,none⟩):=by rw [hbb]; dsimp only; (try simp (discharger:=decide) only [Flow.eval_put_ne,Flow.Q0c]); rw [Flow.Q0a (by simp only [Flow.size_put]; exact (by decide:51 < 91))]; assumption
        clear hbb;intro K hK;unfold execOp;simp only [fo0];clear fo0;go_simp;exact hK _ _ (Ext.refl _) rfl
       case g3=>
        intro v w1 hx;(repeat intro (zq:v _ = _));intro bb hbb;have hlk:=Q5n (P:=Tryz.prog) (HM8.out.ext (hdr.trans hx)) X8a Y6e (J4r _) kd false;rw [if_neg (by simp),Y2s HLR.out.kind,Option.getD_some] at hlk
        have fo0:bb.eval (.tmp 50) = .map (some tb):=by rw [hbb]; dsimp only; (try simp (discharger:=decide) only [Flow.eval_put_ne,Flow.Q0c]); rw [Flow.Q0a (by simp only [Flow.size_put]; exact (by decide:50 < 91))]; assumption
        have fo1:bb.eval (.tmp 52) = .string kd:=by rw [hbb]; dsimp only; (try simp (discharger:=decide) only [Flow.eval_put_ne,Flow.Q0c]); rw [Flow.Q0a (by simp only [Flow.size_put]; exact (by decide:52 < 91))]; assumption
        clear hbb;intro K hK;unfold execOp;simp only [fo0,fo1];clear fo0 fo1;go_simp;exact hK _ _ (Ext.refl _) rfl
       case g4=>
        intro v w1 hx;(repeat intro (zq:v _ = _));intro bb hbb;have hfk:=Y5c (J5i kd) (J4m kd) (X5e kd);have fo0:bb.eval (.tmp 53) = kdV (J5i kd) (J4m kd) (X5e kd):=by rw [hbb]; dsimp only; (try simp (discharger:=decide) only [Flow.eval_put_ne,Flow.Q0c]); rw [Flow.Q0a (by simp only [Flow.size_put]; exact (by decide:53 < 91))]; assumption
        clear hbb;refine ⟨_,fun w=>?_,rfl⟩;unfold execOp;simp only [fo0];clear fo0;go_simp
       case g5=>
        intro v w1 hx;intro bb hbb;intro K2 hK2;have o1:bb.eval (.tmp 17) = .pointer (some ⟨gl,0,none⟩):=by rw [hbb]; dsimp only; (try simp (discharger:=decide) only [eval_put_ne]); rfl
        exact Q0x (.tmp 17) _ rfl Tryz.J6d Tryz.J0e o1 (HKL.out.ext (hdr.trans hx)) rfl (hK2 _ _ (Ext.refl _) rfl)
       case g6=>
        intro v w1 hx;intro bb hbb;have n0:w1.cell? ⟨go,0,none⟩ = some (.slice (some ⟨b,0,none⟩) n n):=(HO8.out.ext (hdr.trans hx)).cell 0;have fo0:bb.eval (.tmp 9) = .pointer (some ⟨go,0,none⟩):=by rw [hbb]; dsimp only; (try simp (discharger:=decide) only [Flow.eval_put_ne,Flow.Q0c]); rfl
        clear hbb;intro K hK;unfold execOp;simp only [fo0];clear fo0;go_simp;exact hK _ _ (Ext.refl _) rfl
       case g7 | g12=>
        intro v w1 hx;intro bb hbb;have fo0:bb.eval (.tmp 18) = .int .i64 (nd:Nat):=by rw [hbb]; dsimp only; (try simp (discharger:=decide) only [Flow.eval_put_ne,Flow.Q0c]); rfl
        clear hbb;refine ⟨_,fun w=>?_,rfl⟩;unfold execOp;simp only [fo0];clear fo0;go_simp
       case g8=>
        intro v w1 hx;(repeat intro (zq:v _ = _));intro bb hbb;have hnd:(nd:Int) < (n:Int):=by (have:=HND.out; omega)
        have fo0:bb.eval (.tmp 56) = .slice (some ⟨b,0,none⟩) n n:=by rw [hbb]; dsimp only; (try simp (discharger:=decide) only [Flow.eval_put_ne,Flow.Q0c]); rw [Flow.Q0a (by simp only [Flow.size_put]; exact (by decide:56 < 91))]; assumption
        have fo1:bb.eval (.tmp 57) = .int .i64 (nd:Nat):=by rw [hbb]; dsimp only; (try simp (discharger:=decide) only [Flow.eval_put_ne,Flow.Q0c]); rw [Flow.Q0a (by simp only [Flow.size_put]; exact (by decide:57 < 91))]; assumption
        clear hbb;refine ⟨_,fun w=>?_,rfl⟩;unfold execOp;simp only [fo0,fo1];clear fo0 fo1;go_simp
       case g9=>
        intro v w1 hx;(repeat intro (zq:v _ = _));intro bb hbb;have n0:=(hdr.trans hx).cell HR8.out;have fo0:bb.eval (.tmp 58) = .pointer (some ⟨b,nd,none⟩):=by rw [hbb]; dsimp only; (try simp (discharger:=decide) only [Flow.eval_put_ne,Flow.Q0c]); rw [Flow.Q0a (by simp only [Flow.size_put]; exact (by decide:58 < 91))]; assumption
        clear hbb;intro K hK;unfold execOp;simp only [fo0];clear fo0;go_simp;exact hK _ _ (Ext.refl _) rfl
       case g10=>
        intro v w1 hx;intro bb hbb;have fo0:bb.eval (.tmp 3) = .pointer (some ⟨g,0,none⟩):=by rw [hbb]; dsimp only; (try simp (discharger:=decide) only [Flow.eval_put_ne,Flow.Q0c]); rfl
        clear hbb;refine ⟨_,fun w=>?_,rfl⟩;unfold execOp;simp only [fo0];clear fo0;go_simp
       case g11=>
        intro v w1 hx;(repeat intro (zq:v _ = _));intro bb hbb;have n0:w1.cell? ⟨g,0,none⟩ = some (.slice (some ⟨bn,on,none⟩) n capa):=(H06.out.ext (hdr.trans hx)).cell 0;have fo0:bb.eval (.tmp 60) = .pointer (some ⟨g,0,none⟩):=by rw [hbb]; dsimp only; (try simp (discharger:=decide) only [Flow.eval_put_ne,Flow.Q0c]); rw [Flow.Q0a (by simp only [Flow.size_put]; exact (by decide:60 < 91))]; assumption
        clear hbb;intro K hK;unfold execOp;simp only [fo0];clear fo0;go_simp;exact hK _ _ (Ext.refl _) rfl
       case g13=>
        intro v w1 hx;(repeat intro (zq:v _ = _));intro bb hbb;have hnd:(nd:Int) < (n:Int):=by (have:=HND.out; omega)
        have fo0:bb.eval (.tmp 61) = .slice (some ⟨bn,on,none⟩) n capa:=by rw [hbb]; dsimp only; (try simp (discharger:=decide) only [Flow.eval_put_ne,Flow.Q0c]); rw [Flow.Q0a (by simp only [Flow.size_put]; exact (by decide:61 < 91))]; assumption
        have fo1:bb.eval (.tmp 62) = .int .i64 (nd:Nat):=by rw [hbb]; dsimp only; (try simp (discharger:=decide) only [Flow.eval_put_ne,Flow.Q0c]); rw [Flow.Q0a (by simp only [Flow.size_put]; exact (by decide:62 < 91))]; assumption
        clear hbb;refine ⟨_,fun w=>?_,rfl⟩;unfold execOp;simp only [fo0,fo1];clear fo0 fo1;go_simp
       case g14=>
        intro v w1 hx;(repeat intro (zq:v _ = _));intro bb hbb;have fo0:bb.eval (.tmp 63) = .pointer (some ⟨bn,on + nd * 3,none⟩):=by rw [hbb]; dsimp only; (try simp (discharger:=decide) only [Flow.eval_put_ne,Flow.Q0c]); rw [Flow.Q0a (by simp only [Flow.size_put]; exact (by decide:63 < 91))]; assumption
        clear hbb;refine ⟨_,fun w=>?_,rfl⟩;unfold execOp;simp only [fo0];clear fo0;go_simp
       case g15=>
        intro v w1 hx;(repeat intro (zq:v _ = _));intro bb hbb;have n0:=(hdr.trans hx).cell HE1.out;have fo0:bb.eval (.tmp 64) = .pointer (some ⟨bn,on + nd * 3 + 1,none⟩):=by rw [hbb]; dsimp only; (try simp (discharger:=decide) only [Flow.eval_put_ne,Flow.Q0c]); rw [Flow.Q0a (by simp only [Flow.size_put]; exact (by decide:64 < 91))]; assumption
        clear hbb;intro K hK;unfold execOp;simp only [fo0];clear fo0;go_simp;exact hK _ _ (Ext.refl _) rfl
       case g16 | g18=>
        intro v w1 hx;intro bb hbb;have fo0:bb.eval (.tmp 5) = .pointer (some ⟨g + 1,0,none⟩):=by rw [hbb]; dsimp only; (try simp (discharger:=decide) only [Flow.eval_put_ne,Flow.Q0c]); rfl
        clear hbb;refine ⟨_,fun w=>?_,rfl⟩;unfold execOp;simp only [fo0];clear fo0;go_simp
       case g17=>
        intro v w1 hx;(repeat intro (zq:v _ = _));intro bb hbb;have n0:w1.cell? ⟨g + 1,0,none⟩ = some (.int .i64 td):=(H16.out.ext (hdr.trans hx)).cell 0;have fo0:bb.eval (.tmp 66) = .pointer (some ⟨g + 1,0,none⟩):=by rw [hbb]; dsimp only; (try simp (discharger:=decide) only [Flow.eval_put_ne,Flow.Q0c]); rw [Flow.Q0a (by simp only [Flow.size_put]; exact (by decide:66 < 91))]; assumption
        clear hbb;intro K hK;unfold execOp;simp only [fo0];clear fo0;go_simp;exact hK _ _ (Ext.refl _) rfl
       case g19=>
        intro v w1 hx;(repeat intro (zq:v _ = _));intro bb hbb;have n0:w1.cell? ⟨g + 1,1,none⟩ = some (.bool op):=(H16.out.ext (hdr.trans hx)).cell 1;have fo0:bb.eval (.tmp 68) = .pointer (some ⟨g + 1,1,none⟩):=by rw [hbb]; dsimp only; (try simp (discharger:=decide) only [Flow.eval_put_ne,Flow.Q0c]); rw [Flow.Q0a (by simp only [Flow.size_put]; exact (by decide:68 < 91))]; assumption
        clear hbb;intro K hK;unfold execOp;simp only [fo0];clear fo0;go_simp;exact hK _ _ (Ext.refl _) rfl
       case g20=>
        intro v w1 hx;(repeat intro (zq:v _ = _));intro bb hbb;subst hbb;refine ⟨_,fun w=>?_,rfl⟩;go_simp
       case g21=>
        intro v w1 hx;(repeat intro (zq:v _ = _));intro bb hbb;subst hbb;have hen:=Z2i kd;intro K hK;go_simp;refine Q0f (HFL.out w1) ?_;rintro e w2 ⟨rfl,hx2⟩;exact ⟨_,rfl,hK _ _ hx2 rfl⟩
       case g22=>
        intro v w1 hx;(repeat intro (zq:v _ = _));intro bb hbb;have fo0:bb.eval (.tmp 71) = .int .i64 fl:=by rw [hbb]; dsimp only; (try simp (discharger:=decide) only [Flow.eval_put_ne,Flow.Q0c]); rw [Flow.Q0a (by simp only [Flow.size_put]; exact (by decide:71 < 91))]; assumption
        clear hbb;refine ⟨_,fun w=>?_,rfl⟩;unfold execOp;simp only [fo0];clear fo0;go_simp
       case post =>
        intro v w1 hx;(iterate 23 intro (zq:v _ = _));simp only [Flow.All,Flow.acts,Act.put];go_simp;have HX9:=Lib.hid (HXX.out.trans (hdr.trans hx));have HKL9:=Lib.hid (HKL.out.ext (hdr.trans hx));clear hx hdr HXX HKL H06 H16 HO8 HR8 HM8 HE1
        (repeat clear zq)
        have hwn:IntKind.i64.wrap (-fl) = -fl:=Q2r (by have:=HLR.out.bd; omega) (by have:=HLR.out.bd; omega)
        have c1:=HKL9.out.cell 1;have c2:=HKL9.out.cell 2;simp only [Go.Tw.gA,Go.Tw.gB,Go.Tw.gC] at c1 c2;have HS9:Hid (StB w1 go gb b (Q5b x c U q j).1 (Q5b x c U q j).2.1):=Lib.hid (HS.out.ext HX9.out);have HB9:Hid (B <= w1.heap.size):=Lib.hid (by have:=HBR.out; have:=HX9.out.size; omega)
        have HM9:Hid (Q2c w1 tb X6p):=Lib.hid (HMAP.out.ext HX9.out);have HO9:Hid (Q0i w1 B 3 (.int .i64) u14 (Q5b x c U q j).2.2):=Lib.hid (HOWN.out.below HX9.out);have HL9:Hid (Below b w6 w1):=Lib.hid (HLO.out.trans (HX9.out.mono (by have:=HBR.out; have:=HBS.out.2.1; omega)))
        have HGN:Hid (gl ≠ gb /\ gl ≠ b):=Lib.hid (by have:=HBS.out; have:=HBR.out; have:=HGL.out; omega)
        clear HS HMAP HOWN HLO HX9 HXR HBR;go_wp2_with fail;refine (add_any _ lf (-fl) go gb b _ _ HS9.out (by have:=HLR.out.src; rw [Q4n,HUL.out]; rw [HN.out] at this; exact this) (fun k _=>HLR.out.b1 k)).mono ?_
        rintro e w10 ⟨rfl,hs10,ht10⟩;have HS10:=Lib.hid hs10;have HT10:=Lib.hid ht10;have HKL10:=Lib.hid (Q9a HKL9.out (ht10.2 gl HGN.out.1 HGN.out.2));have c2:=HKL10.out.cell 2;simp only [Go.Tw.gA,Go.Tw.gB,Go.Tw.gC] at c2;clear hs10 ht10 c1 hwn;go_wp2_with fail;refine (add_any _ lt fl go gb b _ _ HS10.out (by have:=HLR.out.dst; rw [X3h,Q4n,HUL.out]; rw [HN.out] at this; exact this) (fun k _=>HLR.out.b2 k)).mono ?_
        rintro e w11 ⟨rfl,hs11,ht11⟩;have HS11:Hid (StB w11 go gb b (Q5b x c U q (j + 1)).1 (Q5b x c U q (j + 1)).2.1):=Lib.hid (by rw [HLR.out.next]; exact hs11)
        have HT11:Hid (Two gb b w1 w11):=Lib.hid (HT10.out.trans ht11);have hown:=Q0i.two HO9.out HBS.out.1 HBS.out.2.1 HT11.out;have HM11:Hid (Q2c w11 tb X6p):=Lib.hid (Q2c.two HM9.out HS9.out HT11.out);have HB11:Hid (B <= w11.heap.size):=Lib.hid (by have:=HB9.out; have:=(HT11.out.1 b (by have:=HGB.out; omega) (Nat.le_refl _)).size; omega)
        have HL11:Hid (Below b w6 w11):=Lib.hid (HL9.out.trans (HT11.out.1 b (by have:=HGB.out; omega) (Nat.le_refl _)))
        have hll:(Q5b x c U q j).2.2.length <= 16:=by rw [Q8b]; have:=HK.out; have:=HM.out; have:=HOK.out.many; omega
        have hxx:=Ext.refl w11;have hB11:=HB11.out;clear hs11 ht11 c2 HS9 HS10 HT10 HM9 HO9 HB9;go_wp2_with (at_builtin; refine wpList_append_own _ rfl _ _ 44 rfl (B) 3 i0 (.int .i64 0) 1 8 Tryz.underlying44 hi hz0 hz1 hz2 rfl (by decide) _ _ _ rfl (World.ownsRow.alloc hown _) ⟨w11.heap.size,0,none⟩ 1 1 [.int .i64 fl] rfl rfl ?_ ?_ ?_ ?_ ?_ ?_; exact Q4p _ _ _; (focus (simp [Value.oneCell'])); (focus (unfold maxLen; omega)); (focus omega); (focus (have:=hxx.size; simp at this ⊢; omega)); intro v' w1 hown' hgrow _)
        have hlo:=Y9o hown (Nat.le_refl B) HB11.out hgrow;have HL12:=Lib.hid (HL11.out.trans (hlo.mono (by have:=HBS.out; omega)))
        have HS12:=Lib.hid (HS11.out.low hlo HBS.out.2.2.2 HBS.out.1 HBS.out.2.1);have HM12:=Lib.hid (Q2c.low HM11.out hlo HBS.out.2.2.1);have HO12:Hid (Q0i w1 B 3 (.int .i64) v' (Q5b x c U q (j + 1)).2.2):=Lib.hid (by rw [HLR.out.next]; exact Q0i.snoc hown')
        clear hlo hown hown' hgrow hxx hll hB11;go_wp2;go_roundw
        case rel=>exact ⟨j + 1,by have:=HK.out; omega,by (try rw [HWK.out]); go_num,HS12.out,HO12.out,HM12.out,HL12.out⟩
        case measure=>have:=HK.out; (try rw [HWK.out]); simp [intOf]; omega
     . have hkI:¬ (j:Int) < (m:Int):=by omega
       have hjm:m = j:=by omega
       subst hjm;have HEX:Hid ((Q5b x c U q m).2.2.length <= 17592186043904):=Lib.hid (by rw [Q8b]; have:=HM.out; have:=HOK.out.many; omega)
       have HF:Hid (Q0i wr 0 3 (.int .i64) u14 (Q3w x V c).2.2):=Lib.hid (by rw [HEQ.out]; exact Z9i hown)
       have HV:Hid (Q0i wr 0 3 (.int .i64) (.slice (some ⟨b,0,none⟩) n n) (Q3w x V c).1):=Lib.hid (by rw [HEQ.out]; exact Y0e hst.r ((Q4n ..).trans HUL.out) (by have:=HN8.out; unfold maxLen; omega))
       have c0:=hst.o.cell 0;have c1:=hst.q.cell 0;simp only [Go.Tw.gA,Go.Tw.gB,Go.Tw.gC] at c0 c1;rw [Q4n,HUL.out] at c0;rw [<- HEQ.out] at c1;clear hst hown hmap hlow HGBO hlt hj;go_upto_region 21 with fail
       go_quiet (fail)
       all_goals go_wp2
       all_goals go_ret3
       all_goals exact ⟨_,_,rfl,HF.out,HV.out,HXR.out.drewN _⟩
end Go.Proofs
namespace Go.Tw
open Go.Ba
def Q3x (x:Q1j) (V:List Int) (l:List Cond):Nat -> List Int
 | 0=>V
 | k + 1=>(Q3w x (Q3x x V l k) (cd l k)).1
def Q3p (x:Q1j) (V:List Int) (l:List Cond) (k:Nat):Bool:=(Q3w x (Q3x x V l k) (cd l k)).2.1
def X1y (x:Q1j) (V:List Int) (l:List Cond) (k:Nat):List Int:=(Q3w x (Q3x x V l k) (cd l k)).2.2
def Runs (x:Q1j) (V:List Int) (l:List Cond) (m:Nat):Prop :=
 (m = l.length /\ ∀ j,j < m -> Q3p x V l j = true) ∨ ∃ k,k < l.length /\ m = k + 1 /\ Q3p x V l k = false /\ ∀ j,j < k -> Q3p x V l j = true
theorem Runs.le {x:Q1j} {V:List Int} {l:List Cond} {m:Nat} (h:Runs x V l m):m <= l.length:=by
 rcases h with ⟨h,-⟩ | ⟨k,h,h2,-⟩ <;> omega
theorem Z9p (x:Q1j) (V:List Int) (c:Cond):(Q3w x V c).1.length = V.length:=by unfold Q3w; rw [Q4n,Q6w]
theorem Q8c (x:Q1j) (V:List Int) (l:List Cond):∀ k,(Q3x x V l k).length = V.length
 | 0=>rfl
 | k + 1=>by unfold Q3x; rw [Z9p,Q8c x V l k]
theorem X9k {V:List Int} {i n:Int} (hi:i = -1 ∨ (0 <= i /\ i < V.length)) (h:∀ k,ix V k <= 100000000) (hf:Q6t (Q5x V i n) i = true):∀ k,ix (Q5x V i n) k <= 100000000:=by
 intro k
 rcases hi with rfl | ⟨h0,h1⟩
 . unfold Q5x; rw [if_pos (by decide)]; exact h k
 . unfold Q6t at hf
   have hlt:¬ i < 0:=by omega
   simp only [hlt,decide_false,Bool.false_or,decide_eq_true_eq] at hf
   by_cases e:i.toNat = k
   . subst e; exact hf
   . unfold Q5x
     rw [if_neg hlt,Z5d _ (by omega),if_neg e]
     exact h k
theorem Y9a {V X:List Int} (hV:∀ k,ix V k <= 100000000):∀ k,k <= V.length -> (Q8j V X k).2 = true -> ∀ j,ix (Q8j V X k).1 j <= 100000000
 | 0,_,_=>hV
 | k + 1,hk,h=>by
   have h':((Q8j V X k).2 && Q6t (Q5x (Q8j V X k).1 k (ix X k)) k) = true:=h;rw [Bool.and_eq_true] at h';exact X9k (.inr ⟨by omega,by rw [Q6w]; omega⟩) (Y9a hV k (by omega) h'.1) h'.2
theorem Z0d {x:Q1j} (hx:x.Ok) {c:Cond} {U:List Int} {q:Bool} (hl:U.length = x.nodes.length) (hU:q = true -> ∀ k,ix U k <= 100000000):∀ k,k <= x.links.length -> (Q5b x c U q k).2.1 = true -> ∀ j,ix (Q5b x c U q k).1 j <= 100000000
 | 0,_,h=>hU h
 | k + 1,hk,h=>by
   have hf:=hx.links k (by omega)
   obtain ⟨e1,e2,-,-⟩:=Fits.J7e hf;have h':(((Q5b x c U q k).2.1 && Q6t (Q5x (Q5b x c U q k).1 (lk x.links k).src (-(Q2z x c k (Q5b x c U q k).1))) (lk x.links k).src) && Q6t (Q5x (Q5x (Q5b x c U q k).1 (lk x.links k).src (-(Q2z x c k (Q5b x c U q k).1))) (lk x.links k).dst (Q2z x c k (Q5b x c U q k).1)) (lk x.links k).dst) = true:=h;rw [Bool.and_eq_true,Bool.and_eq_true] at h';refine X9k (by rw [X3h,Q4n,hl]; exact e2) ?_ h'.2
   exact X9k (by rw [Q4n,hl]; exact e1) (Z0d hx hl hU k (by omega) h'.1.1) h'.1.2
structure Q7t (x:Q1j) (l:List Cond):Prop where
 len:∀ k,k < l.length -> (cd l k).inflow.length = x.nodes.length
 inflow:∀ k,k < l.length -> ∀ j,0 <= ix (cd l k).inflow j /\ ix (cd l k).inflow j <= 100000
 tide:∀ k,k < l.length -> -1024 <= (cd l k).tide /\ (cd l k).tide <= 1024
theorem J3m {x:Q1j} (hx:x.Ok) {V:List Int} (hl:V.length = x.nodes.length) (hV:Bnd V 100000000) {c:Cond} (hcl:c.inflow.length = x.nodes.length) (hci:∀ j,0 <= ix c.inflow j /\ ix c.inflow j <= 100000) (hct:c.tide <= 1024) (hf:(Q3w x V c).2.1 = true) :
    Bnd (Q3w x V c).1 100000000:=by
 have hb:=X7n hV hci c.inflow.length (by omega)
 have hU:Bnd (Q8j V c.inflow c.inflow.length).1 100100000:=hb.1;have h1:=Y5t hx hct (by rw [Q6w,hl]) (by decide) hU (Q8j V c.inflow c.inflow.length).2 (k:=x.links.length) (Nat.le_refl _)
 have h2:=Z0d hx (c:=c) (U:=(Q8j V c.inflow c.inflow.length).1) (q:=(Q8j V c.inflow c.inflow.length).2) (by rw [Q6w,hl]) (Y9a (fun k=>(hV k).2) c.inflow.length (by omega)) x.links.length (Nat.le_refl _) hf
 exact fun k=>⟨(h1 k).1,h2 k⟩
theorem X9i {x:Q1j} (hx:x.Ok) {V:List Int} (hl:V.length = x.nodes.length) (hV:Bnd V 100000000) {l:List Cond} (hc:Q7t x l):∀ k,k <= l.length -> (∀ j,j < k -> Q3p x V l j = true) -> Bnd (Q3x x V l k) 100000000
 | 0,_,_=>hV
 | k + 1,hk,h=>by
   have ih:=X9i hx hl hV hc k (by omega) fun j hj=>h j (by omega)
   exact J3m hx (by rw [Q8c,hl]) ih (hc.len k hk) (hc.inflow k hk) (hc.tide k hk).2 (h k (by omega))
end Go.Tw
namespace Go.Tw
open Go.RowKit Go.Flow Go.Ba
abbrev X2t (td:Int) (op:Bool) (a f u:Value):Array Value:=#[.int .i64 td,.bool op,a,f,u]
abbrev J0g (td:Int) (op:Bool) (a f u:Value):Value:=.agg (X2t td op a f u)
structure Z7v (W0 W:World) (x:Q1j) (V:List Int) (l:List Cond) (k:Nat) (a f u:Value):Prop where
 inflow:Q0e W0 a (cd l k).inflow
 flows:Q0i W 0 3 (.int .i64) f (X1y x V l k)
 vols:if Q3p x V l k = true then (∃ b,u = .slice (some ⟨b,0,none⟩) x.nodes.length x.nodes.length) /\ Q0i W 0 3 (.int .i64) u (Q3x x V l (k + 1)) else u = .slice none 0 0
def X0y (B:Nat) (W W':World):Prop:=Below B W W' /\ ∀ v L,Q0i W 0 3 (.int .i64) v L -> Q0i W' 0 3 (.int .i64) v L
theorem X0y.trans {B:Nat} {W1 W2 W3:World} (h:X0y B W1 W2) (k:X0y B W2 W3):X0y B W1 W3:=⟨h.1.trans k.1,fun v L hv=>k.2 v L (h.2 v L hv)⟩
theorem Z7v.keep {B:Nat} {W0 W W':World} {x:Q1j} {V:List Int} {l:List Cond} {k:Nat} {a f u:Value} (h:Z7v W0 W x V l k a f u) (hk:X0y B W W'):Z7v W0 W' x V l k a f u:=by
 refine ⟨h.inflow,hk.2 _ _ h.flows,?_⟩;have hv:=h.vols
 by_cases e:Q3p x V l k = true
 . rw [if_pos e] at hv ⊢; exact ⟨hv.1,hk.2 _ _ hv.2⟩
 . rw [if_neg e] at hv ⊢; exact hv
theorem Z7v.ext {W0 W W':World} {x:Q1j} {V:List Int} {l:List Cond} {k:Nat} {a f u:Value} (h:Z7v W0 W x V l k a f u) (hx:Ext W W'):Z7v W0 W' x V l k a f u :=
 h.keep (B:=0) ⟨hx.mono (Nat.zero_le _),fun _ _ hv=>Q0i.below hv hx⟩
theorem Blk.off {w:World} {g b k:Nat} {T:TypeId} {cs:Array Value} (h:Blk w g T cs) (hne:g ≠ b) (u:Value):Blk (w.setCell ⟨b,k,none⟩ u) g T cs:=by
 unfold Blk at h ⊢;rw [Below.heap_setCell _ _ _ _ hne]; exact h
end Go.Tw
namespace Go.Proofs
open Go.RowKit Go.Tw Go.Flow Go.Ba Go.Shelf
attribute [local go_sem] Oper.semAt_some
theorem Y6c (n L:Nat) (hn:1 <= n) (W0 W:World) (x:Q1j) (V:List Int) (l:List Cond) (va vl vv vc:Value) (gl gb gv B0:Nat) (J:Nat -> World -> Prop)
    (hx:Q8y W0 va vl x) (hV:Q0e W0 vv V) (hc:Q2p W0 vc l) (hok:x.Ok) (hlen:V.length = x.nodes.length) (hbn:Bnd V 100000000) (hco:Q7t x l) (hlm:l.length <= 4096)
    (hX:Ext W0 W) (kl:Blk W gl 45 #[vc]) (kb:Blk W gb 40 #[va,vl]) (kv:Blk W gv 44 #[vv])
    (hl0:W0.heap.size <= gv) (hlB:gl < B0 /\ gb < B0 /\ gv < B0 /\ W0.heap.size <= B0) (hne:gl ≠ gv /\ gb ≠ gv)
    (hJE:∀ k A B,J k A -> Ext A B -> J k B) (hJS:∀ k A cs u,J k A -> Blk A gv 44 cs -> J k (A.setCell ⟨gv,0,none⟩ u))
    (hY:∀ k a f u W1,J k W1 -> Z7v W0 W1 x V l k a f u -> k < l.length -> YieldAt Fence.wide (n - 1) Tryz.prog L #[J0g (cd l k).tide (cd l k).opn a f u] W1 fun e W'=>e = .returned (.bool true) /\ J (k + 1) W' /\ X0y B0 W1 W')
    (h0:J 0 W) :
    CallsIn Fence.wide n Tryz.prog 178 #[.func (.yield L) #[] #[],.pointer (some ⟨gl,0,none⟩),.pointer (some ⟨gb,0,none⟩),.pointer (some ⟨gv,0,none⟩)] W fun e W'=>(∃ v,e = .returned v) /\ ∃ m,Runs x V l m /\ J m W':=by
 obtain ⟨A,capa,rfl,-,-,-⟩:=hx.nodes.opened;obtain ⟨LL,capl,rfl,-,-,-⟩:=hx.links.opened;obtain ⟨C,capc,rfl,-,-,-⟩:=hc.opened;have HX:=Lib.hid hx;have HC:=Lib.hid hc;have HOK:=Lib.hid hok;have HCO:=Lib.hid hco;have HJE:=Lib.hid hJE;have HJS:=Lib.hid hJS;have HY:=Lib.hid hY;have HL:=Lib.hid hlen;have HBN:=Lib.hid hbn;have HLB:=Lib.hid hlB;have HNE:=Lib.hid hne;have HL0:=Lib.hid hl0;obtain ⟨m,hm⟩:∃ z,l.length = z:=⟨_,rfl⟩;have HM:=Lib.hid hm;have HMB:Hid (m <= 4096):=Lib.hid (by rw [<- hm]; exact hlm)
 rw [hm] at kl;have c0:=kl.cell 0;simp only [Go.Tw.gA,Go.Tw.gB] at c0;have H0:Hid (J 0 W /\ Ext W0 W /\ Blk W gl 45 #[.slice C m capc] /\ Blk W gb 40 #[.slice A x.nodes.length capa,.slice LL x.links.length capl] /\ (∃ u,Blk W gv 44 #[u] /\ (Q0e W0 u (Q3x x V l 0) ∨ Q0i W 0 3 (.int .i64) u (Q3x x V l 0)))):=Lib.hid ⟨h0,hX,kl,kb,vv,kv,.inl hV⟩;clear hx hc hok hco hJE hJS hY hlen hbn hlB hne hl0 hm hlm h0 hX kl kb kv hV;refine callsIn_of_wp Tryz.func178 rfl trivial ?_ rfl;simp only [Tryz.ntmps178,List.size_toArray,List.length_cons,List.length_nil,Nat.reduceAdd,Nat.reduceSub,Array.replicate_succ,Array.replicate_zero,List.push_toArray,List.append_toArray,List.nil_append,List.cons_append]
 gi_wp2
 clear c0
 gi_loopw [12] (fun iv wr=>∃ k:Nat,k <= m /\ iv = .int .i64 k /\ (∀ j,j < k -> Q3p x V l j = true) /\ J k wr /\ Ext W0 wr /\ Blk wr gl 45 #[.slice C m capc] /\ Blk wr gb 40 #[.slice A x.nodes.length capa,.slice LL x.links.length capl] /\ (∃ u,Blk wr gv 44 #[u] /\ (Q0e W0 u (Q3x x V l k) ∨ Q0i wr 0 3 (.int .i64) u (Q3x x V l k)))) (fun iv _=>m - (intOf iv).toNat)
 case atStart=>exact ⟨0,Nat.zero_le _,rfl,fun j hj=>absurd hj (Nat.not_lt_zero _),H0.out⟩
 case round =>
  obtain ⟨k,hk,rfl,hfi,hj,hxr,kl,kb,u,kv,hu⟩:=hrel;clear H0;have HFI:=Lib.hid hfi;have HJ:=Lib.hid hj;have HXR:=Lib.hid hxr;have HKL:=Lib.hid kl;have HKB:=Lib.hid kb;have HKV:=Lib.hid kv
  by_cases hlt:k < m
  . have hkI:(k:Int) < (m:Int):=by omega
    have HK:=Lib.hid hlt;have HWK:Hid (wrap64 ((k:Int) + 1) = (k:Int) + 1):=Lib.hid (by have:=HMB.out; unfold wrap64; omega)
    obtain ⟨L9,c9,h9,-,-,hcx⟩:=HC.out.opened;obtain ⟨bx,ox,a,hbx,-,d0,d1,d2,ha⟩:=hcx k (by rw [HM.out]; exact hlt)
    injection h9 with k1 k2 k3;subst k1 k3;subst hbx;have hcl:=HCO.out.len k (by rw [HM.out]; exact hlt)
    have hci:=HCO.out.inflow k (by rw [HM.out]; exact hlt)
    have hct:=HCO.out.tide k (by rw [HM.out]; exact hlt)
    have hvb:=X9i HOK.out HL.out HBN.out HCO.out k (by rw [HM.out]; omega) hfi
    have hvl:=Q8c x V l k;rw [HL.out] at hvl;have hyy:=fun f u W1=>HY.out k a f u W1;have hfe:Q3p x V l k = (Q3w x (Q3x x V l k) (cd l k)).2.1:=rfl;have hfl:X1y x V l k = (Q3w x (Q3x x V l k) (cd l k)).2.2:=rfl;have hvo:Q3x x V l (k + 1) = (Q3w x (Q3x x V l k) (cd l k)).1:=rfl;obtain ⟨c,hcc⟩:∃ z,cd l k = z:=⟨_,rfl⟩;rw [hcc] at d0 d1 ha hcl hci hct hyy hfe hfl hvo;obtain ⟨td,op,ins⟩:=c;dsimp only at d0 d1 ha hcl hci hct hyy;obtain ⟨AI,capi,rfl,-,-,-⟩:=ha.opened;replace d0:=hxr.cell d0;replace d1:=hxr.cell d1;replace d2:=hxr.cell d2;have hin:Q0e W0 (.slice AI ins.length capi) (cd l k).inflow:=by rw [hcc]; exact ha
    have HIN:=Lib.hid hin;have HYY:=Lib.hid hyy;have HFE:=Lib.hid hfe;have HFL:=Lib.hid hfl;have HVO:=Lib.hid hvo;have hcond:∀ W',Ext W0 W' -> Y2x W' (.agg #[.int .i64 td,.bool op,.slice AI ins.length capi]) ⟨td,op,ins⟩:=fun W' h=>⟨_,rfl,ha.ext h⟩;have HCD:=Lib.hid hcond;obtain ⟨U,hU⟩:∃ z,Q3x x V l k = z:=⟨_,rfl⟩;rw [hU] at hu hvb hvl HFE HFL HVO;have HU:=Lib.hid hu;have HSTEP:Hid (∀ W',Ext wr W' -> Calls Tryz.prog 179 #[.agg #[.slice A x.nodes.length capa,.slice LL x.links.length capl],u,.agg #[.int .i64 td,.bool op,.slice AI ins.length capi]] W' fun e w'=>∃ f b,e = .returned (.tuple #[f,.slice (some ⟨b,0,none⟩) x.nodes.length x.nodes.length,.bool (Q3w x U ⟨td,op,ins⟩).2.1]) /\ Q0i w' 0 3 (.int .i64) f (Q3w x U ⟨td,op,ins⟩).2.2 /\ Q0i w' 0 3 (.int .i64) (.slice (some ⟨b,0,none⟩) x.nodes.length x.nodes.length) (Q3w x U ⟨td,op,ins⟩).1 /\ Ext W' w'):=Lib.hid fun W' hw=>by
     refine J2r W' _ _ _ x U ⟨td,op,ins⟩ ⟨_,_,rfl,HX.out.ext (HXR.out.trans hw)⟩ ?_ (HCD.out W' (HXR.out.trans hw)) HOK.out hvl hcl hvb hci hct
     rcases HU.out with h | h
     . exact h.ext (HXR.out.trans hw)
     . exact (h.ints (by rw [hvl]; have:=HOK.out.some; omega)).ext hw
    have hsl:(Q3w x U ⟨td,op,ins⟩).2.2.length = x.links.length:=by unfold Q3w; exact Q8b _ _ _ _ _
    obtain ⟨st,hst⟩:∃ z,Q3w x U ⟨td,op,ins⟩ = z:=⟨_,rfl⟩;rw [hst] at HSTEP HFE HFL HVO hsl;obtain ⟨so,sq,sf⟩:=st;dsimp only at HSTEP HFE HFL HVO hsl;have HSL:Hid (sf.length <= 17592186043904):=Lib.hid (by rw [hsl]; have:=HOK.out.many; omega)
    clear hsl;have hkb2:=Blk.made wr 49 #[.int .i64 td,.bool op,.slice AI ins.length capi];have hxb:=Ext.box wr (.cells #[.int .i64 td,.bool op,.slice AI ins.length capi] 49);have e0:=hkb2.cell 0;have e1:=hkb2.cell 1;have e2:=hkb2.cell 2;have b0:=kb.cell 0;have b1:=kb.cell 1;have v0:=kv.cell 0;simp only [Go.Tw.gA,Go.Tw.gB,Go.Tw.gC] at e0 e1 e2 b0 b1 v0;replace b0:=hxb.cell b0;replace b1:=hxb.cell b1;replace v0:=hxb.cell v0;have HKC:=Lib.hid hkb2;have HXB:=Lib.hid hxb;clear hcx hk hfi hj hxr kl kb kv hu hlt hcl hci hct hvb hvl hyy hfe hfl hvo ha hin hcond hkb2 hxb k2 hst hU hcc
    gi_wp2_with fail
    refine ⟨trivial,(callsIn_wide.2 (HSTEP.out _ HXB.out)).mono ?_⟩;rintro e w8 ⟨f,b,rfl,hf,hv,hx8⟩;obtain ⟨FA,capf,rfl,-,-,-⟩:=(hf.ints HSL.out).opened;have HX8:=Lib.hid (HXR.out.trans (HXB.out.trans hx8));have HW8:=Lib.hid (HXB.out.trans hx8);have HF:=Lib.hid hf;have HV:=Lib.hid hv;have HJ8:Hid (J k w8):=Lib.hid (HJE.out k _ _ HJ.out HW8.out);have HKL8:=Lib.hid (HKL.out.ext HW8.out);have HKB8:=Lib.hid (HKB.out.ext HW8.out);have HKV8:=Lib.hid (HKV.out.ext HW8.out);replace e0:=hx8.cell e0;replace e1:=hx8.cell e1;replace e2:=hx8.cell e2;clear b0 b1 v0 hf hv hx8 d0 d1 d2 HSTEP HKC HXB HKL HKB HKV HJ HXR;cases sq with
    | true =>
      have hp:Z7v W0 w8 x V l k (.slice AI ins.length capi) (.slice FA sf.length capf) (.slice (some ⟨b,0,none⟩) x.nodes.length x.nodes.length):=⟨HIN.out,by rw [HFL.out]; exact HF.out,by rw [if_pos HFE.out]; exact ⟨⟨_,rfl⟩,by rw [HVO.out]; exact HV.out⟩⟩
      obtain ⟨fn,tmps,assign,body,hy,hR⟩:=HYY.out (.slice FA sf.length capf) _ w8 HJ8.out hp (by rw [HM.out]; exact HK.out)
      have HR:=Lib.hid hR;simp only [J0g,X2t] at hy;clear hp hR
      gi_wp2
      refine HR.out.mono ?_;rintro e W3 ⟨rfl,hJ3,hk3⟩;have HJ3:=Lib.hid hJ3;have HK3:=Lib.hid hk3;have hkv3:=HKV8.out.below hk3.1 HLB.out.2.2.1;have HKV3:=Lib.hid hkv3;have v0:=hkv3.cell 0;have f0:=hkv3.frozen 0;simp only [Go.Tw.gA,Go.Tw.gB] at v0;clear hJ3 hk3 hkv3 hy HR e0 e1 e2
      gi_wp2
      go_roundw
      case rel =>
       refine ⟨k + 1,by have:=HK.out; omega,by (try rw [HWK.out]); go_num,fun j hj=>?_,HJS.out (k + 1) W3 _ _ HJ3.out HKV3.out,?_,?_,?_,?_⟩
       . rcases Nat.lt_succ_iff_lt_or_eq.1 hj with h | rfl
         . exact HFI.out j h
         . exact HFE.out
       . exact (Below.trans HX8.out (HK3.out.1.mono HLB.out.2.2.2)).setCell (p:=⟨gv,0,none⟩) HL0.out _
       . exact (HKL8.out.below HK3.out.1 HLB.out.1).off HNE.out.1 _
       . exact (HKB8.out.below HK3.out.1 HLB.out.2.1).off HNE.out.2 _
       . refine ⟨_,HKV3.out.set 0 _,.inr ?_⟩
         rw [HVO.out];exact Q4y (HK3.out.2 _ _ HV.out) HKV3.out (by decide)
      case measure=>have:=HK.out; (try rw [HWK.out]); simp [intOf]; omega
    | false =>
      have hp:Z7v W0 w8 x V l k (.slice AI ins.length capi) (.slice FA sf.length capf) (.slice none 0 0):=⟨HIN.out,by rw [HFL.out]; exact HF.out,by rw [if_neg (by rw [HFE.out]; decide)]⟩
      obtain ⟨fn,tmps,assign,body,hy,hR⟩:=HYY.out (.slice FA sf.length capf) _ w8 HJ8.out hp (by rw [HM.out]; exact HK.out)
      have HR:=Lib.hid hR;simp only [J0g,X2t] at hy;clear hp hR
      gi_wp2
      refine HR.out.mono ?_;rintro e W3 ⟨rfl,hJ3,-⟩;have HJ3:=Lib.hid hJ3;clear hJ3 hy HR e0 e1 e2
      gi_wp2
      refine bodyPost_ret (results_none rfl _ _ _) rfl ?_;exact ⟨⟨_,rfl⟩,k + 1,.inr ⟨k,by rw [HM.out]; exact HK.out,rfl,HFE.out,HFI.out⟩,HJ3.out⟩
  . obtain rfl:k = m:=by omega
    have hkI:¬ (k:Int) < (k:Int):=by omega
    clear kl kb kv hu hxr hfi
    gi_wp2
    go_end0
    exact ⟨⟨_,rfl⟩,k,.inl ⟨HM.out.symm,HFI.out⟩,HJ.out⟩
end Go.Proofs
namespace Go.Tw
open Go.RowKit Go.Flow
def J8g (F:Fence) (n:Nat) (P:Program) (gf:Nat) (lb:Array Value) (gv:Nat) (T:TypeId) (Y:Nat -> Value -> World -> Prop) (Kp:World -> World -> Prop) (S:Nat -> Prop) (N:Nat) (w:World):Prop :=
 ∀ (l:Nat) (J:Nat -> World -> Prop) (W:World),Ext w W -> (∀ k A B,J k A -> Ext A B -> J k B) -> (∀ k A cs u,J k A -> Blk A gv T cs -> J k (A.setCell ⟨gv,0,none⟩ u)) ->
  (∀ k v W1,J k W1 -> Y k v W1 -> k < N -> YieldAt F (n - 1) P l #[v] W1 fun e W'=>e = .returned (.bool true) /\ J (k + 1) W' /\ Kp W1 W') -> J 0 W ->
  CallsIn F n P gf (#[.func (.yield l) #[] #[]] ++ lb) W fun e W'=>(∃ v,e = .returned v) /\ ∃ m,S m /\ J m W'
theorem X2i {F:Fence} {n:Nat} {P:Program} {g:Operand} {ps:Array Tmp} {assign body:Code} {Q:Exit -> Act -> World -> Prop} {a:Act} {w:World}
    (hro:F.round = none) (h1:1 <= n) {gf:Nat} {lb:Array Value} (hg:a.eval g = .func (.func gf) #[] lb) (hFg:F.fn gf) (eg:∀ args w,(callFunc gf args).run P w = .ok (.enter gf args) w) (hps:ps.size = 1)
    (gv:Nat) (T:TypeId) (hgv:gv < w.heap.size) (I:Nat -> World -> Prop) (Y:Nat -> Value -> World -> Prop) (Kp:World -> World -> Prop) (S:Nat -> Prop) (N:Nat)
    (hseq:J8g F (n - 1) P gf lb gv T Y Kp S N w)
    (hIE:∀ k A B,I k A -> Ext A B -> I k B) (hIs:∀ k A cs u,I k A -> Blk A gv T cs -> I k (A.setCell ⟨gv,0,none⟩ u))
    (hIp:∀ k A l o o',I k A -> w.heap.size <= l -> A.heap[l]? = some o -> o.isCells = false -> I k (A.putObj l o'))
    (hKt:∀ {A B C:World},Kp A B -> Kp B C -> Kp A C) (hKb:∀ (W:World) (l:Nat) (o o':Obj),w.heap.size <= l -> W.heap[l]? = some o -> o.isCells = false -> Kp W (W.putObj l o')) (h0:I 0 w)
    (hround:∀ (l k:Nat) (v:Value) (W:World),w.heap.size <= l -> I k W -> Y k v W -> k < N ->
     assign.wpIn (F.inRound l) (n - 1 - 1) P (Exit.then (fun a1 W1=>KeepsFrom w.heap.size W W1 /\ Kp W W1 /\ ∀ (r r':Loop),W1.heap[l]? = some (.loop r) ->
      body.wpIn (F.inRound l) (n - 1 - 1) P (fun e _ W3=>e = .normal /\ KeepsFrom w.heap.size (W1.putObj l (.loop r')) W3 /\ Kp (W1.putObj l (.loop r')) W3 /\ I (k + 1) W3) a1 (W1.putObj l (.loop r'))) (fun _ _ _=>False))
      { tmps:=(ps.zip #[v]).foldl (fun t (p,v)=>t.setIfInBounds p v) a.tmps,defers:=[] } W)
    (hdone:∀ (D m:Nat) (W:World),w.heap.size <= D -> S m -> I m W -> W.heap[D]? = some (.deferred (some [])) -> Q .normal { a with defers:={ target:=.collected D,args:=#[] } :: a.defers } W) :
    (Code.rangeFunc g ps assign body).wpIn F n P Q a w:=by
 refine wpIn_rangeFunc ?_;intro fn hfn;rw [hro];obtain ⟨rec,hrec⟩:∃ rec:LoopState -> Option Code -> Loop,rec = fun st pe=>{ state:=st,pending:=pe,fn,tmps:=a.tmps,params:=ps,assign,body,defers:=w.heap.size }:=⟨_,rfl⟩
 obtain ⟨W1,hW1⟩:∃ W1,(w.alloc (.deferred (some []))).alloc (.loop (rec .ready none)) = W1:=⟨_,rfl⟩;have hL1:W1.heap[w.heap.size + 1]? = some (.loop (rec .ready none)):=by
  rw [<- hW1]; have:=World.alloc_heap_new (w.alloc (.deferred (some []))) (.loop (rec .ready none)); rwa [World.size_alloc] at this
 have hK1:W1.heap[w.heap.size]? = some (.deferred (some [])):=by
  rw [<- hW1]; exact (Below.heap_alloc _ _ _ (by simp)).trans (World.alloc_heap_new w _)
 have hx1:Ext w W1:=by rw [<- hW1]; exact (Ext.box w _).trans (Ext.box _ _)
 have hI1:I 0 W1:=hIE _ _ _ h0 hx1;refine ⟨w.heap.size + 1,[{ target:=.collected w.heap.size,args:=#[] }],W1,{ target:=.fn (.func gf) lb,args:=#[.func (.yield (w.heap.size + 1)) #[] #[]] },W1,gf,
  #[.func (.yield (w.heap.size + 1)) #[] #[]] ++ lb,W1,?_,?_,?_,?_,fun _=>h1,?_⟩
 . rw [<- hW1,hrec]; exact run_enterLoop_outer _ _ _ _ _
 . simp only [resolve,hg]
   simp [go_sem]
 . intro f' hf'; simp [Target.leads] at hf'; subst hf'; exact hFg
 . simp [invoke,go_sem,eg]
 . refine (hseq (w.heap.size + 1) (fun k W=>I k W /\ W.heap[w.heap.size + 1]? = some (.loop (rec .ready none)) /\ W.heap[w.heap.size]? = some (.deferred (some []))) W1 hx1
    (fun k A B hs hx=>⟨hIE _ _ _ hs.1 hx,(Below.block hx _ (Array.getElem?_eq_some_iff.1 hs.2.1).1).trans hs.2.1,(Below.block hx _ (Array.getElem?_eq_some_iff.1 hs.2.2).1).trans hs.2.2⟩)
    (fun k A cs u hs hb=>⟨hIs _ _ _ _ hs.1 hb,(Below.heap_setCell _ _ _ _ (by show w.heap.size + 1 ≠ gv; omega)).trans hs.2.1,(Below.heap_setCell _ _ _ _ (by show w.heap.size ≠ gv; omega)).trans hs.2.2⟩)
    ?_ ⟨hI1,hL1,hK1⟩).mono ?_
   . rintro k x W ⟨hi,hl,hk⟩ hyx hlen
     have hlt:w.heap.size + 1 < W.heap.size:=(Array.getElem?_eq_some_iff.1 hl).1;have hy:=run_yield (P:=P) (args:=#[x]) hl (by rw [hrec]; exact hps.symm)
     rw [hrec] at hy;refine ⟨fn,_,assign,body,hy,roundIn_of_wpIn hfn (wpIn_mono (hround (w.heap.size + 1) k x W (by omega) hi hyx hlen) ?_)⟩
     clear hy;rintro e a1 Wa ha;cases e with
     | normal =>
       obtain ⟨hkfa,hkpa,hb⟩:=ha;have hla:=hkfa.same _ _ (by omega) hl rfl
       have hka:=hkfa.same _ _ (Nat.le_refl _) hk rfl;have hlta:w.heap.size + 1 < Wa.heap.size:=(Array.getElem?_eq_some_iff.1 hla).1;refine ⟨_,run_beginRound hla (by rw [hrec]),?_⟩
       have hl2:(Wa.putObj (w.heap.size + 1) (.loop { rec .ready none with state:=.busy })).heap[w.heap.size + 1]? = some (.loop { rec .ready none with state:=.busy }):=World.putObj_heap_same hlta;have hk2:(Wa.putObj (w.heap.size + 1) (.loop { rec .ready none with state:=.busy })).heap[w.heap.size]? = some (.deferred (some [])):=(World.putObj_heap_other (by omega)).trans hka
       have hw2:Kp Wa (Wa.putObj (w.heap.size + 1) (.loop { rec .ready none with state:=.busy })):=hKb _ _ _ _ (by omega) hla rfl
       refine wpIn_mono (hb _ { rec .ready none with state:=.busy } hla) ?_;rintro e a3 W3 ⟨rfl,hk3,hkp3,hi3⟩;have hl3:=hk3.same _ _ (by omega) hl2 rfl
       have hr:=run_endRound (P:=P) none hl3;have hlt3:=(Array.getElem?_eq_some_iff.1 hl3).1;rw [hrec] at hr hl3;refine ⟨_,_,hr,rfl,⟨hIp _ _ _ _ _ hi3 (by omega) hl3 rfl,?_,?_⟩,hKt hkpa (hKt (hKt hw2 hkp3) (hKb _ _ _ _ (by omega) hl3 rfl))⟩
       . rw [hrec]; exact World.putObj_heap_same hlt3
       . exact (World.putObj_heap_other (by omega)).trans (hk3.same _ _ (Nat.le_refl _) hk2 rfl)
     | ret=>exact ha.elim
     | exit id=>exact ha.elim
     | goto t=>exact ha.elim
     | panic ch=>exact ha.elim
     | outgrown=>exact ha.elim
   . rintro e W2 ⟨⟨v,rfl⟩,m,hS,hi,hl,hk⟩
     exact ⟨none,_,by have:=run_endLoop (P:=P) hl (by rw [hrec]; simp); rw [hrec] at this; exact this,hdone _ m _ (Nat.le_refl _) hS (hIp _ _ _ _ _ hi (by omega) hl rfl) ((World.putObj_heap_other (by omega)).trans hk)⟩
end Go.Tw
namespace Go.Tw
open Go.RowKit Go.Flow Go.Ba
structure PsV where
 td:Int
 op:Bool
 a:Value
 f:Value
 u:Value
def J6p (p:PsV):List Value:=[.int .i64 p.td,.bool p.op,p.a,p.f,p.u]
def Y4h (W0 W:World) (x:Q1j) (V:List Int) (l:List Cond) (ps:List PsV):Prop:=∀ k (h:k < ps.length),ps[k].td = (cd l k).tide /\ ps[k].op = (cd l k).opn /\ Z7v W0 W x V l k ps[k].a ps[k].f ps[k].u
theorem Y4h.keep {B:Nat} {W0 W W':World} {x:Q1j} {V:List Int} {l:List Cond} {ps:List PsV} (h:Y4h W0 W x V l ps) (hk:X0y B W W'):Y4h W0 W' x V l ps:=fun k hl=>⟨(h k hl).1,(h k hl).2.1,(h k hl).2.2.keep hk⟩
theorem Y4h.snoc {W0 W:World} {x:Q1j} {V:List Int} {l:List Cond} {ps:List PsV} {p:PsV} (h:Y4h W0 W x V l ps) (h1:p.td = (cd l ps.length).tide) (h2:p.op = (cd l ps.length).opn) (h3:Z7v W0 W x V l ps.length p.a p.f p.u):Y4h W0 W x V l (ps ++ [p]):=fun k hk=>by
 by_cases e:k < ps.length
 . rw [List.getElem_append_left e]; exact h k e
 . have e2:k = ps.length:=by rw [List.length_append,List.length_singleton] at hk; omega
   subst e2;rw [List.getElem_append_right (Nat.le_refl _)];simp only [Nat.sub_self,List.getElem_cons_zero];exact ⟨h1,h2,h3⟩
theorem X9q {B:Nat} {W W':World} (h:Ext W W') (hB:B <= W.heap.size):X0y B W W':=⟨h.mono hB,fun _ _ hv=>Q0i.below hv h⟩
theorem Q5o {W:World} {l:Nat} {o:Obj} (o':Obj) (hl:W.heap[l]? = some o) (ho:o.isCells = false) (b:Nat) (c:Obj) (hb:W.heap[b]? = some c) (hc:c.isCells = true):(W.putObj l o').heap[b]? = some c:=by
 refine (World.putObj_heap_other (fun e=>?_)).trans hb;subst e;rw [hl] at hb; cases hb; rw [ho] at hc; cases hc
theorem Y3j {α:Type} {W W':World} {base:Nat} {e:TypeId} {enc:α -> Value} {v:Value} {l:List α} (h:Q0i W base e enc v l) (hk:∀ (b:Nat) (o:Obj),W.heap[b]? = some o -> o.isCells = true -> W'.heap[b]? = some o):Q0i W' base e enc v l:=by
 obtain ⟨h1,h2⟩:=h;refine ⟨h1,?_⟩
 rcases h2 with h2 | ⟨g,cap,cur,hv,hbg,hg,r⟩
 . exact .inl h2
 . exact .inr ⟨g,cap,cur,hv,hbg,hk _ _ hg rfl,r⟩
theorem X4x {α:Type} {W W':World} {base k:Nat} {e:TypeId} {enc:α -> List Value} {v:Value} {l:List α} (h:Q0u W base e k enc v l) (hk:∀ (b:Nat) (o:Obj),W.heap[b]? = some o -> o.isCells = true -> W'.heap[b]? = some o):Q0u W' base e k enc v l:=by
 obtain ⟨h1,h2⟩:=h;refine ⟨h1,?_⟩
 rcases h2 with h2 | ⟨g,cap,cur,hv,hbg,hg,r⟩
 . exact .inl h2
 . exact .inr ⟨g,cap,cur,hv,hbg,hk _ _ hg rfl,r⟩
theorem X9e {B:Nat} {w W:World} (hB:B <= w.heap.size) {l:Nat} {o:Obj} (o':Obj) (hw:w.heap.size <= l) (hl:W.heap[l]? = some o) (ho:o.isCells = false):X0y B W (W.putObj l o') :=
 ⟨(Below.refl B W).grown (grownBy_putObj' W l o') (by have:=(Array.getElem?_eq_some_iff.1 hl).1; omega) (fun k e=>by cases e; omega),fun _ _ hv=>Y3j hv (Q5o o' hl ho)⟩
def Y1y (W0:World) (x:Q1j) (V:List Int) (l:List Cond) (gs k:Nat) (W:World):Prop:=∃ v ps,ps.length = k /\ Blk W gs 121 #[v] /\ Q0u W gs 125 5 J6p v ps /\ Y4h W0 W x V l ps /\ Ext W0 W
theorem Y1y.ext {W0:World} {x:Q1j} {V:List Int} {l:List Cond} {gs k:Nat} {A B:World} (h:Y1y W0 x V l gs k A) (hx:Ext A B):Y1y W0 x V l gs k B:=by
 obtain ⟨v,ps,h1,h2,h3,h4,h5⟩:=h;exact ⟨v,ps,h1,h2.ext hx,Q0u.below h3 hx,h4.keep (X9q hx (Nat.le_refl _)),h5.trans hx⟩
theorem Y1y.set {W0:World} {x:Q1j} {V:List Int} {l:List Cond} {gs k gv:Nat} {A:World} {cs:Array Value} {u:Value} (h:Y1y W0 x V l gs k A) (hb:Blk A gv 44 cs) (hg:gv < gs) (h0:W0.heap.size <= gv):Y1y W0 x V l gs k (A.setCell ⟨gv,0,none⟩ u):=by
 obtain ⟨v,ps,h1,h2,h3,h4,h5⟩:=h;have hk:X0y 0 A (A.setCell ⟨gv,0,none⟩ u):=⟨(Below.refl 0 A).setCell (p:=⟨gv,0,none⟩) (Nat.zero_le _) u,fun _ _ hv=>Q4y hv hb (by decide)⟩
 exact ⟨v,ps,h1,h2.off (by omega) u,Q0u.setCell h3 (p:=⟨gv,0,none⟩) hg u,h4.keep hk,Below.setCell h5 (p:=⟨gv,0,none⟩) h0 u⟩
theorem Y1y.put {W0:World} {x:Q1j} {V:List Int} {l:List Cond} {gs k:Nat} {A:World} (h:Y1y W0 x V l gs k A) {j:Nat} {o:Obj} (o':Obj) (hj:W0.heap.size <= j) (hl:A.heap[j]? = some o) (ho:o.isCells = false):Y1y W0 x V l gs k (A.putObj j o'):=by
 obtain ⟨v,ps,h1,h2,h3,h4,h5⟩:=h;have hk:X0y W0.heap.size A (A.putObj j o'):=⟨(Below.refl W0.heap.size A).grown (grownBy_putObj' A j o') h5.size (fun k e=>by cases e; exact hj),fun _ _ hv=>Y3j hv (Q5o o' hl ho)⟩
 exact ⟨v,ps,h1,Q5o o' hl ho _ _ h2 rfl,X4x h3 (Q5o o' hl ho),h4.keep hk,Below.trans h5 hk.1⟩
end Go.Tw
namespace Go.Proofs
open Go.RowKit Go.Tw Go.Flow Go.Ba Go.Shelf
attribute [local go_sem] Oper.semAt_some
theorem Tryz.J5x:(Tryz.prog.info? 125).map (fun i=>(i.zero,i.size,i.bytes)) = some (some (.agg #[.int .i64 0,.bool false,.slice none 0 0,.slice none 0 0,.slice none 0 0]),5,88):=by kernel_rfl
theorem Y4y (W0 w:World) (x:Q1j) (V:List Int) (l:List Cond) (va vl vv vc:Value) (gl gb gv:Nat)
    (hx:Q8y W0 va vl x) (hV:Q0e W0 vv V) (hc:Q2p W0 vc l) (hok:x.Ok) (hlen:V.length = x.nodes.length) (hbn:Bnd V 100000000) (hco:Q7t x l) (hlm:l.length <= 4096)
    (hX:Ext W0 w) (kl:Blk w gl 45 #[vc]) (kb:Blk w gb 40 #[va,vl]) (kv:Blk w gv 44 #[vv]) (hl0:W0.heap.size <= gv) (hne:gl ≠ gv /\ gb ≠ gv) :
    Calls Tryz.prog 177 #[.slice none 0 0,.func (.func 178) #[] #[.pointer (some ⟨gl,0,none⟩),.pointer (some ⟨gb,0,none⟩),.pointer (some ⟨gv,0,none⟩)]] w fun e w' =>
     ∃ v ps,e = .returned v /\ Q0u w' w.heap.size 125 5 J6p v ps /\ Runs x V l ps.length /\ Y4h W0 w' x V l ps /\ Ext W0 w':=by
 obtain ⟨i0,hi,hz0,hz1,hz2⟩:=info_parts Tryz.J5x;refine (callsIn_wide (n:=12)).1 ?_;refine callsIn_of_wp_marks Tryz.func177 rfl trivial ?_ rfl;simp only [Tryz.ntmps177,List.size_toArray,List.length_cons,List.length_nil,Nat.reduceAdd,Nat.reduceSub,Array.replicate_succ,Array.replicate_zero,List.push_toArray,List.append_toArray,List.nil_append,List.cons_append]
 gi_wp2
 have hxb:=Ext.box w (.cells #[.slice none 0 0] 121);have hkb:=Blk.made w 121 #[.slice none 0 0];have hsz:(w.alloc (.cells #[.slice none 0 0] 121)).heap.size = w.heap.size + 1:=World.size_alloc _ _;obtain ⟨W1,hW1⟩:∃ z,w.alloc (.cells #[.slice none 0 0] 121) = z:=⟨_,rfl⟩;rw [hW1] at hxb hkb hsz ⊢;have hgv:=kv.lt;have hgl:=kl.lt;have hgb:=kb.lt;have h0w:W0.heap.size <= w.heap.size:=hX.size;refine X2i (n:=12) rfl (by omega) (gf:=178) (lb:=#[.pointer (some ⟨gl,0,none⟩),.pointer (some ⟨gb,0,none⟩),.pointer (some ⟨gv,0,none⟩)]) rfl trivial (enters_of Tryz.func178 (by kernel_rfl) rfl) rfl
  gv 44 (by omega) (Y1y W0 x V l w.heap.size) (fun k v W=>∃ a f u,v = J0g (cd l k).tide (cd l k).opn a f u /\ Z7v W0 W x V l k a f u) (X0y w.heap.size) (Runs x V l) l.length
  ?seq (fun k A B h hx=>h.ext hx) (fun k A cs u h hb=>h.set hb (by omega) hl0) (fun k A j o o' h hj hl ho=>h.put o' (by omega) hl ho) (fun h k=>h.trans k) (fun W j o o' hj hl ho=>X9e (w:=W1) (by omega) o' hj hl ho)
  ⟨_,[],rfl,hkb,Q0u.nil _ _ _ _ _,fun k hk=>absurd hk (Nat.not_lt_zero _),hX.trans hxb⟩ ?round ?done
 case seq =>
  intro j J W hx' hJE hJS hY hJ0;have hxw:=hxb.trans hx';exact Y6c 11 j (by omega) W0 W x V l va vl vv vc gl gb gv w.heap.size J hx hV hc hok hlen hbn hco hlm (hX.trans hxw) (kl.ext hxw) (kb.ext hxw) (kv.ext hxw) hl0 ⟨hgl,hgb,hgv,h0w⟩ hne hJE hJS
   (fun k a f u W1 hj hp hk=>hY k _ W1 hj ⟨a,f,u,rfl,hp⟩ hk) hJ0
 case round =>
  rintro j k v W hj ⟨v0,ps,rfl,hb,ho,hp,hx2⟩ ⟨a,f,u,rfl,hpr⟩ hk;obtain ⟨AI,capi,rfl,-,-,-⟩:=hpr.inflow.opened;have hfl:(X1y x V l ps.length).length = x.links.length:=by unfold X1y Q3w; exact Q8b _ _ _ _ _
  obtain ⟨FA,capf,rfl,-,-,-⟩:=(hpr.flows.ints (by rw [hfl]; have:=hok.many; omega)).opened
  obtain ⟨UA,un,uc,rfl⟩:∃ A n c,u = .slice A n c:=by
   have hv:=hpr.vols
   by_cases e:Q3p x V l ps.length = true
   . rw [if_pos e] at hv; obtain ⟨⟨b,rfl⟩,-⟩:=hv; exact ⟨_,_,_,rfl⟩
   . rw [if_neg e] at hv; exact ⟨_,_,_,hv⟩
  obtain ⟨lc,hlc⟩:∃ z,cd l ps.length = z:=⟨_,rfl⟩;have HLC:=Lib.hid hlc;rw [hlc] at hpr ⊢;obtain ⟨td,op,ins⟩:=lc;dsimp only;obtain ⟨nf,hnf⟩:∃ z,(X1y x V l ps.length).length = z:=⟨_,rfl⟩;obtain ⟨ni,hni⟩:∃ z,ins.length = z:=⟨_,rfl⟩;dsimp only at hpr;rw [hnf,hni] at hpr;rw [hnf,hni];have HB:=Lib.hid hb;have HO:=Lib.hid ho;have HP:=Lib.hid hp;have HX2:=Lib.hid hx2;have HPR:=Lib.hid hpr;have HGS:Hid (w.heap.size < W.heap.size):=Lib.hid hb.lt;have HK:=Lib.hid hk;clear hfl hnf hni hb ho hp hx2 hpr hlc
  gi_wp2
  have hgs:=HGS.out;refine ⟨(KeepsOthers.alloc _ _).from _,X9q (Ext.box _ _) (by omega),?_⟩
  intro r r' hr;have hxb2:=Ext.box W (.cells (X2t td op (.slice AI ni capi) (.slice FA nf capf) (.slice UA un uc)) 125);have hkb2:=Blk.made W 125 (X2t td op (.slice AI ni capi) (.slice FA nf capf) (.slice UA un uc));unfold X2t at hxb2 hkb2;obtain ⟨W2,hW2⟩:∃ z,W.alloc (.cells #[.int .i64 td,.bool op,.slice AI ni capi,.slice FA nf capf,.slice UA un uc] 125) = z:=⟨_,rfl⟩;rw [hW2] at hxb2 hkb2 hr ⊢;have hk3:X0y w.heap.size W2 (W2.putObj j (.loop r')):=X9e (w:=W1) (by omega) _ hj hr rfl
  have hx3:Ext W0 (W2.putObj j (.loop r')):=Below.trans (HX2.out.trans hxb2) (hk3.1.mono h0w);have hb3:=Q5o (.loop r') hr rfl _ _ hkb2 rfl;have hs3:=Q5o (.loop r') hr rfl _ _ (HB.out.ext hxb2) rfl;have ho3:=X4x (Q0u.below HO.out hxb2) (Q5o (.loop r') hr rfl);have hkw:X0y w.heap.size W (W2.putObj j (.loop r')):=(X9q hxb2 (by omega)).trans hk3
  obtain ⟨W3,hW3⟩:∃ z,W2.putObj j (.loop r') = z:=⟨_,rfl⟩;rw [hW3] at hk3 hx3 hb3 hs3 ho3 hkw ⊢;replace hb3:Blk W3 W.heap.size 125 #[.int .i64 td,.bool op,.slice AI ni capi,.slice FA nf capf,.slice UA un uc]:=hb3;replace hs3:Blk W3 w.heap.size 121 #[v0]:=hs3;have e0:=hb3.cell 0;have e1:=hb3.cell 1;have e2:=hb3.cell 2;have e3:=hb3.cell 3;have e4:=hb3.cell 4;have s0:=hs3.cell 0;simp only [Go.Tw.gA,Go.Tw.gB,Go.Tw.gC] at e0 e1 e2 e3 e4 s0;have hxs:=hkw.1;have hlm2:ps.length <= 4096:=by omega
  have hbox:Boxed W3 w.heap.size 121 v0:=hs3;have hle:w.heap.size <= W3.heap.size:=Nat.le_of_lt hs3.lt;have HKW:=Lib.hid hkw;have HX3:=Lib.hid hx3;clear hW2 hW3 hkb2 hxb2 hr hk3 hkw hx3 hb3 hs3 HB HO HX2 hk
  gi_wp2_with (gi_at_builtin; refine wpListIn_append_own _ rfl _ _ 121 rfl (w.heap.size) 125 i0 (.agg #[.int .i64 0,.bool false,.slice none 0 0,.slice none 0 0,.slice none 0 0]) 5 88 Tryz.underlying121 hi hz0 hz1 hz2 rfl (by decide) _ _ _ rfl (World.ownsRow.alloc ho3 _) ⟨W3.heap.size,0,none⟩ 1 1 [.int .i64 td,.bool op,.slice AI ni capi,.slice FA nf capf,.slice UA un uc] rfl rfl ?_ ?_ ?_ ?_ ?_ ?_; exact Z4y _ _ _; (focus (simp [Value.oneCell'])); (focus (unfold maxLen; omega)); (focus omega); (focus (have:=hxs.size; simp at this ⊢; omega)); intro v' w1 hown' hgrow _; obtain ⟨g',cap',rfl⟩:=ownsRow_succ hown'; obtain ⟨hv1,hv2,hr2,hk2,hb2⟩:=hbox.appended (by decide) ho3 hle (Nat.le_refl _) hown' hgrow; have hc1:=hv1.cell; have hf1:=hv1.frozen)
  have hki:X0y w.heap.size W3 (w1.setCell ⟨w.heap.size,0,none⟩ (.slice (some ⟨g',0,none⟩) (ps.length + 1) cap')):=⟨hb2,fun v L hv=>Q4y (Q2j (Q0i.below hv (Ext.box W3 _)) (World.ownsRow.alloc ho3 _) (by decide) hgrow) hv1 (by decide)⟩
  refine ⟨hk2.from _,hki,_,ps ++ [⟨td,op,.slice AI ni capi,.slice FA nf capf,.slice UA un uc⟩],by simp,hv2,Q0u.snoc (x:=(⟨td,op,.slice AI ni capi,.slice FA nf capf,.slice UA un uc⟩:PsV)) hr2,?_,Below.trans HX3.out (hki.1.mono h0w)⟩
  exact Y4h.snoc ((HP.out.keep HKW.out).keep hki) (by rw [HLC.out]) (by rw [HLC.out]) ((HPR.out.keep HKW.out).keep hki)
 case done =>
  rintro D m W hD hS ⟨v,ps,rfl,hb,ho,hp,hx2⟩ hK;have c0:=hb.cell 0;simp only [Go.Tw.gA,Go.Tw.gB] at c0;have HO:=Lib.hid ho;have HP:=Lib.hid hp;have HX2:=Lib.hid hx2;have HS:=Lib.hid hS;clear hb ho hp hx2 hS
  gi_wp2
  refine ⟨by simp,.inl ⟨_,_,rfl,run_takeDeferred hK,?_⟩⟩
  have hkk:X0y W0.heap.size W (W.putObj D (.deferred none)):=X9e (w:=W1) (by omega) _ hD hK rfl
  exact ⟨_,results_tmp rfl _ _ _,v,ps,rfl,X4x HO.out (Q5o _ hK rfl),HS.out,HP.out.keep hkk,Below.trans HX2.out hkk.1⟩
end Go.Proofs
namespace Go.Tw
open Go.RowKit Go.Flow Go.Ba
def J2u (v:Value):Prop:=∃ A n c,v = .slice A n c
def J7n (_:World) (c:Nat -> Value) (p:PsV):Prop:=c 0 = .int .i64 p.td /\ c 1 = .bool p.op /\ c 2 = p.a /\ c 3 = p.f /\ c 4 = p.u /\ J2u p.a /\ J2u p.f /\ J2u p.u
theorem J7n.ext (w w':World) (c:Nat -> Value) (x:PsV) (_:Ext w w') (h:J7n w c x):J7n w' c x:=h
def Q9g:World -> Value -> List PsV -> Prop:=Rows 5 J7n
theorem Q9g.ext {w w':World} {v:Value} {l:List PsV} (h:Q9g w v l) (hx:Ext w w'):Q9g w' v l:=Rows.ext J7n.ext h hx
theorem Q9g.opened {w:World} {v:Value} {l:List PsV} (h:Q9g w v l) :
    ∃ A cap,v = .slice A l.length cap /\ l.length <= 17592186043904 /\ l.length <= cap /\ ∀ k (hk:k < l.length),∃ b off A1 n1 c1 A2 n2 c2 A3 n3 c3,A = some ⟨b,off,none⟩ /\ b < w.heap.size /\
     w.cell? ⟨b,off + k * 5,none⟩ = some (.int .i64 l[k].td) /\ w.cell? ⟨b,off + k * 5 + 1,none⟩ = some (.bool l[k].op) /\ w.cell? ⟨b,off + k * 5 + 2,none⟩ = some (.slice A1 n1 c1) /\
     w.cell? ⟨b,off + k * 5 + 3,none⟩ = some (.slice A2 n2 c2) /\ w.cell? ⟨b,off + k * 5 + 4,none⟩ = some (.slice A3 n3 c3) /\ l[k].a = .slice A1 n1 c1 /\ l[k].f = .slice A2 n2 c2 /\ l[k].u = .slice A3 n3 c3:=by
 obtain ⟨c,⟨A,cap,hv,hn,hcap,hc⟩,h2⟩:=h;refine ⟨A,cap,hv,hn,hcap,fun k hk=>?_⟩;obtain ⟨b,off,hA,h0⟩:=hc (k * 5) (by omega)
 obtain ⟨b',off',hA',h1⟩:=hc (k * 5 + 1) (by omega)
 rw [hA] at hA'; cases hA';obtain ⟨b',off',hA',h3⟩:=hc (k * 5 + 2) (by omega)
 rw [hA] at hA'; cases hA';obtain ⟨b',off',hA',h4⟩:=hc (k * 5 + 3) (by omega)
 rw [hA] at hA'; cases hA';obtain ⟨b',off',hA',h5⟩:=hc (k * 5 + 4) (by omega)
 rw [hA] at hA'; cases hA';obtain ⟨e0,e1,e2,e3,e4,⟨A1,n1,c1,s1⟩,⟨A2,n2,c2,s2⟩,⟨A3,n3,c3,s3⟩⟩:=h2 k hk;simp only [Nat.add_zero] at e0 e1 e2 e3 e4;refine ⟨b,off,A1,n1,c1,A2,n2,c2,A3,n3,c3,hA,World.block_lt_of_cell? w _ h0,?_,?_,?_,?_,?_,s1,s2,s3⟩
 . rw [h0,e0]
 . rw [Nat.add_assoc,h1,e1]
 . rw [Nat.add_assoc,h3,e2,s1]
 . rw [Nat.add_assoc,h4,e3,s2]
 . rw [Nat.add_assoc,h5,e4,s3]
theorem Y4h.sl {W0 W:World} {x:Q1j} {V:List Int} {l:List Cond} {ps:List PsV} (h:Y4h W0 W x V l ps) (hx:x.links.length <= 16) (p:PsV) (hp:p ∈ ps):J2u p.a /\ J2u p.f /\ J2u p.u:=by
 obtain ⟨k,hk,rfl⟩:=List.getElem_of_mem hp;obtain ⟨-,-,h3⟩:=h k hk;have hfl:(X1y x V l k).length = x.links.length:=by unfold X1y Q3w; exact Q8b _ _ _ _ _
 obtain ⟨A1,c1,e1,-⟩:=h3.inflow.opened;obtain ⟨A2,c2,e2,-⟩:=(h3.flows.ints (by rw [hfl]; omega)).opened
 refine ⟨⟨_,_,_,e1⟩,⟨_,_,_,e2⟩,?_⟩;have hv:=h3.vols
 by_cases e:Q3p x V l k = true
 . rw [if_pos e] at hv; obtain ⟨⟨b,e3⟩,-⟩:=hv; exact ⟨_,_,_,e3⟩
 . rw [if_neg e] at hv; exact ⟨_,_,_,hv⟩
theorem Q0u.pas {w:World} {base:Nat} {v:Value} {ps:List PsV} (h:Q0u w base 125 5 J6p v ps) (hl:ps.length <= 17592186043904) (hs:∀ p ∈ ps,J2u p.a /\ J2u p.f /\ J2u p.u):Q9g w v ps :=
 Q0u.rows (R:=J7n) h hl (fun _=>rfl) (fun p hp=>⟨rfl,rfl,rfl,rfl,rfl,hs p hp⟩) (fun c c' p hc h=>by
  obtain ⟨h0,h1,h2,h3,h4,h5⟩:=h;exact ⟨by rw [<- hc 0 (by omega)]; exact h0,by rw [<- hc 1 (by omega)]; exact h1,by rw [<- hc 2 (by omega)]; exact h2,by rw [<- hc 3 (by omega)]; exact h3,by rw [<- hc 4 (by omega)]; exact h4,h5⟩)
end Go.Tw
namespace Go.Proofs
open Go.RowKit Go.Tw Go.Flow Go.Ba Go.Shelf
attribute [local go_sem] Oper.semAt_some
theorem Y9i (w:World) (A B C D:Option Addr) (n capa m capl nv capv nc capc:Nat) :
    Calls Tryz.prog 146 #[.agg #[.slice A n capa,.slice B m capl],.slice C nv capv,.slice D nc capc] w fun e w'=>∃ gl gb gv,e = .returned (.func (.func 178) #[] #[.pointer (some ⟨gl,0,none⟩),.pointer (some ⟨gb,0,none⟩),.pointer (some ⟨gv,0,none⟩)]) /\
     Blk w' gl 45 #[.slice D nc capc] /\ Blk w' gb 40 #[.slice A n capa,.slice B m capl] /\ Blk w' gv 44 #[.slice C nv capv] /\ w.heap.size <= gv /\ gl ≠ gv /\ gb ≠ gv /\ Ext w w':=by
 go_enter Tryz.func146,Tryz.ntmps146;go_upto_region 1 with fail;obtain ⟨W,hWW,k0,k1,k2,HXW,eW⟩:=Y3i w 40 #[.slice A n capa,.slice B m capl] 44 #[.slice C nv capv] 45 #[.slice D nc capc];rw [hWW];clear hWW;go_wp2;go_ret;exact ⟨_,_,_,rfl,k2,k0,k1,by omega,by omega,by omega,HXW.out⟩
theorem Z3k (W0 w:World) (x:Q1j) (V:List Int) (l:List Cond) (va vl vv vc:Value) (gl gb gv:Nat)
    (hx:Q8y W0 va vl x) (hV:Q0e W0 vv V) (hc:Q2p W0 vc l) (hok:x.Ok) (hlen:V.length = x.nodes.length) (hbn:Bnd V 100000000) (hco:Q7t x l) (hlm:l.length <= 4096)
    (hX:Ext W0 w) (kl:Blk w gl 45 #[vc]) (kb:Blk w gb 40 #[va,vl]) (kv:Blk w gv 44 #[vv]) (hl0:W0.heap.size <= gv) (hne:gl ≠ gv /\ gb ≠ gv) :
    Calls Tryz.prog 145 #[.func (.func 178) #[] #[.pointer (some ⟨gl,0,none⟩),.pointer (some ⟨gb,0,none⟩),.pointer (some ⟨gv,0,none⟩)]] w fun e w' =>
     ∃ v ps,e = .returned v /\ Q9g w' v ps /\ Runs x V l ps.length /\ Y4h W0 w' x V l ps /\ Ext W0 w':=by
 have HC:=Lib.hid (Y4y W0 w x V l va vl vv vc gl gb gv hx hV hc hok hlen hbn hco hlm hX kl kb kv hl0 hne);have HM:=Lib.hid hok.many;have HL:=Lib.hid hlm;clear hx hV hc hok hlen hbn hco hX kl kb kv hl0 hne hlm;go_enter Tryz.func145,Tryz.ntmps145;go_wp2_with fail;refine HC.out.mono ?_;rintro e w2 ⟨v,ps,rfl,ho,hr,hp,hx2⟩;have HO:Hid (Q9g w2 v ps):=Lib.hid (Q0u.pas ho (by have:=hr.le; have:=HL.out; omega) (hp.sl HM.out))
 have HR:=Lib.hid hr;have HP:=Lib.hid hp;have HX2:=Lib.hid hx2;clear ho hr hp hx2;go_wp2;go_ret;exact ⟨_,_,rfl,HO.out,HR.out,HP.out,HX2.out⟩
end Go.Proofs
namespace Go.Tw
open Go.RowKit Go.Flow Go.Ba
def Y0n (x:Q1j) (V:List Int) (l:List Cond) (er:Int) (ps:List PsV):Prop:=(er = 0 /\ ps.length = l.length /\ ∀ j,j < l.length -> Q3p x V l j = true) ∨ (er = 4 /\ ps = [] /\ ∃ j,j < l.length /\ Q3p x V l j = false)
theorem Q9g.nil (w:World):Q9g w (.slice none 0 0) []:=Rows.nil _ _ _
end Go.Tw
namespace Go.Proofs
open Go.RowKit Go.Tw Go.Flow Go.Ba Go.Shelf
attribute [local go_sem] Oper.semAt_some
theorem Tryz.X5v (w:World):(isAgg 40).run Tryz.prog w = .ok true w:=by kernel_rfl
theorem Tryz.J8k (b:Addr) (n c:Nat) (w:World):(binOp .eql 44 (.slice (some b) n c) (.slice none 0 0)).run Tryz.prog w = .ok (.bool false) w:=by kernel_rfl
theorem Tryz.J8v (w:World):(binOp .eql 44 (.slice none 0 0) (.slice none 0 0)).run Tryz.prog w = .ok (.bool true) w:=by kernel_rfl
theorem Tryz.X0c (w:World):(sizeOf 40).run Tryz.prog w = .ok 2 w:=by kernel_rfl
theorem run_any (w:World) (vb vv vc:Value) (x:Q1j) (V:List Int) (l:List Cond)
    (hb:Q2g w vb x) (hV:Q0e w vv V) (hc:Q2p w vc l) (hok:x.Ok) (hlen:V.length = x.nodes.length) (hbn:Bnd V 100000000) (hco:Q7t x l) (hlm:l.length <= 4096) :
    Calls Tryz.prog 78 #[vb,vv,vc] w fun e w'=>∃ v ps er,e = .returned (.tuple #[v,.int .i64 er]) /\ Q9g w' v ps /\ Y0n x V l er ps /\ Y4h w w' x V l ps /\ Ext w w':=by
 obtain ⟨va,vl,rfl,h2⟩:=hb;obtain ⟨A,capa,rfl,-,-,-⟩:=h2.nodes.opened;obtain ⟨L,capl,rfl,-,-,-⟩:=h2.links.opened;obtain ⟨C,capc,rfl,-,-,-⟩:=hV.opened;obtain ⟨D,capd,rfl,-,-,-⟩:=hc.opened;have HCOL:Hid (∀ W gl gb gv,Ext w W -> Blk W gl 45 #[.slice D l.length capd] -> Blk W gb 40 #[.slice A x.nodes.length capa,.slice L x.links.length capl] -> Blk W gv 44 #[.slice C V.length capc] -> w.heap.size <= gv -> gl ≠ gv -> gb ≠ gv ->
     Calls Tryz.prog 145 #[.func (.func 178) #[] #[.pointer (some ⟨gl,0,none⟩),.pointer (some ⟨gb,0,none⟩),.pointer (some ⟨gv,0,none⟩)]] W fun e w' =>
      ∃ v ps,e = .returned v /\ Q9g w' v ps /\ Runs x V l ps.length /\ Y4h w w' x V l ps /\ Ext w w'):=Lib.hid fun W gl gb gv hX k1 k2 k3 h0 n1 n2 =>
  Z3k w W x V l _ _ _ _ gl gb gv h2 hV hc hok hlen hbn hco hlm hX k1 k2 k3 h0 ⟨n1,n2⟩
 have HLM:=Lib.hid hlm;obtain ⟨n,hn⟩:∃ z,x.nodes.length = z:=⟨_,rfl⟩;obtain ⟨m,hm⟩:∃ z,x.links.length = z:=⟨_,rfl⟩;obtain ⟨nv,hnv⟩:∃ z,V.length = z:=⟨_,rfl⟩;rw [hn,hm,hnv] at HCOL;rw [hn,hm,hnv];clear h2 hV hc hok hlen hbn hco hlm hn hm hnv;go_enter Tryz.func78,Tryz.ntmps78;go_upto_region 1 with fail;obtain ⟨W,hWW,k0,HXW,eW⟩:=Q2y w 40 #[.slice A n capa,.slice L m capl];rw [hWW];clear hWW;have K0:=Lib.hid k0;have HWS:Hid (w.heap.size <= W.heap.size):=Lib.hid HXW.out.size;clear k0 eW;go_wp2_with (first | (refine Q0j rfl _ _ rfl Tryz.X5v Tryz.X0c rfl K0.out rfl ?_) | fail)
 refine (Y9i _ A L C D n capa m capl nv capc l.length capd).mono ?_;rintro e w2 ⟨gl,gb,gv,rfl,k1,k2,k3,h0,n1,n2,hx2⟩;have hcol:=HCOL.out w2 gl gb gv (HXW.out.trans hx2) k1 k2 k3 (Nat.le_trans HWS.out h0) n1 n2;have HC:=Lib.hid hcol;clear hcol k1 k2 k3 h0 n1 n2 hx2 HCOL K0;go_wp2_with fail;refine HC.out.mono ?_;rintro e w3 ⟨v,ps,rfl,hip,hr,hp,hx3⟩;obtain ⟨P,capp,rfl,-,-,hcell⟩:=hip.opened;have HIP:=Lib.hid hip;have HR:=Lib.hid hr;have HP:=Lib.hid hp;have HX3:=Lib.hid hx3;clear hip hp hx3 HC
 rcases Nat.eq_zero_or_pos ps.length with hz | hz
 . have hres:Y0n x V l 0 ps:=by
    rcases hr with ⟨h,hf⟩ | ⟨k,hk,h,-⟩
    . exact .inl ⟨rfl,h,by rw [<- h]; exact hf⟩
    . omega
   have HRES:=Lib.hid hres;obtain ⟨mm,hmm⟩:∃ z,ps.length = z:=⟨_,rfl⟩;have HMM:=Lib.hid hmm;rw [hmm] at hz ⊢;subst hz;clear hcell hr hres hmm;go_wp2;go_ret2;exact ⟨_,ps,0,rfl,by have:=HIP.out; rw [HMM.out] at this; exact this,HRES.out,HP.out,HX3.out⟩
 . obtain ⟨kk,hkk⟩:∃ kk,ps.length = kk + 1:=⟨ps.length - 1,by omega⟩
   obtain ⟨b,off,A1,n1,c1,A2,n2,c2,A3,n3,c3,rfl,-,-,-,-,-,d4,-,-,hu⟩:=hcell kk (by omega)
   obtain ⟨-,-,h3⟩:=HP.out kk (by omega)
   have hv:=h3.vols;rw [hu] at hv;obtain ⟨mm,hmm⟩:∃ z,ps.length = z:=⟨_,rfl⟩;have HMM:=Lib.hid hmm;have hml:mm <= 4096:=by have:=hr.le; have:=HLM.out; omega
   rw [hmm] at hz hkk ⊢;have hwn:IntKind.i64.wrap ((mm:Int) - 1) = (kk:Int):=by rw [Q2r (by omega) (by omega)]; omega
   have hkI:(kk:Int) < (mm:Int):=by omega
   have hzI:(0:Int) < (mm:Int):=by omega
   rcases hr with ⟨h,hf⟩ | ⟨k,hk,h,hnf,hf⟩
   . rw [if_pos (hf kk (by omega))] at hv
     obtain ⟨⟨b3,e3⟩,-⟩:=hv;injection e3 with e3 e4 e5;subst e3;have hres:Y0n x V l 0 ps:=.inl ⟨rfl,h,by rw [<- h]; exact hf⟩
     have HRES:=Lib.hid hres;have HML:=Lib.hid hml;have hq:=Tryz.J8k ⟨b3,0,none⟩ x.nodes.length x.nodes.length w3;clear hcell hf h hres hmm h3 hu hkk hml hz;go_wp2;go_ret2;exact ⟨_,ps,0,rfl,by have:=HIP.out; rw [HMM.out] at this; exact this,HRES.out,HP.out,HX3.out⟩
   . have:k = kk:=by omega
     subst this;rw [if_neg (by rw [hnf]; decide)] at hv
     injection hv with e3 e4 e5;subst e3 e4 e5;have hq:=Tryz.J8v w3;have hres:Y0n x V l 4 []:=.inr ⟨rfl,rfl,k,hk,hnf⟩;have HRES:=Lib.hid hres;clear hcell hf h hres hmm h3 hu hkk hml hz hnf hk;go_wp2;go_ret2;exact ⟨_,[],4,rfl,Q9g.nil _,HRES.out,fun k hk=>absurd hk (Nat.not_lt_zero _),HX3.out⟩
end Go.Proofs
namespace Go.Proofs
open Go.RowKit Go.Tw Go.Flow Go.Ba
attribute [local go_sem] Oper.semAt_some
theorem Y3f {l:List Int} {a b:Int} (h:∀ k,k < l.length -> a <= ix l k /\ ix l k <= b):∀ y ∈ l.map (fun x=>Q0g x a b),y = 0:=by
 intro y hy;rw [List.mem_map] at hy;obtain ⟨z,hz,rfl⟩:=hy;obtain ⟨k,hk,rfl⟩:=List.getElem_of_mem hz;have:=h k hk;rw [Q5p hk] at this;exact Q1p.2 this
theorem J8u (w:World) (x:Int) (h:-1024 <= x /\ x <= 1024):Calls Tryz.prog 153 #[.int .i64 x] w fun e w'=>e = .returned (.int .i64 0) /\ w = w':=by
 have:=Y6a w x
 rwa [Q1p.2 h] at this
theorem Z8w (w:World) (vb vv:Value) (x:Q1j) (V:List Int) (hb:Q2g w vb x) (hv:Q0e w vv V) (hl:V.length = x.nodes.length) (hbn:Bnd V 100000000) (hle:V.length <= 4096) :
    Calls Tryz.prog 152 #[vb,vv] w fun e w'=>e = .returned (.int .i64 0) /\ Ext w w':=by
 have h:=X6y w vb vv x V hb hv hle;have e:Y7e x V = 0:=by
  unfold Y7e;rw [X1w (Y3f fun k _=>hbn k),hl];have:(((x.nodes.length:Nat):Int) != (x.nodes.length:Int)) = false:=by simp
  rw [this]; rfl
 rwa [e] at h
theorem Y4e (w:World) (vb vc:Value) (x:Q1j) (c:Cond) (hb:Q2g w vb x) (hc:Y2x w vc c) (hl:c.inflow.length = x.nodes.length) (hi:∀ k,0 <= ix c.inflow k /\ ix c.inflow k <= 100000) (ht:-1024 <= c.tide /\ c.tide <= 1024) (hle:x.nodes.length <= 8) :
    Calls Tryz.prog 86 #[vb,vc] w fun e w'=>e = .returned (.int .i64 0) /\ Ext w w':=by
 obtain ⟨va,vl,rfl,h2⟩:=hb;obtain ⟨A,capa,rfl,-,-,-⟩:=h2.nodes.opened;obtain ⟨L,capl,rfl,-,-,-⟩:=h2.links.opened;obtain ⟨td,op,ins⟩:=c;obtain ⟨vi,rfl,hxi⟩:=hc;dsimp only at hxi hl hi ht ⊢;obtain ⟨X,capx,rfl,-,-,-⟩:=hxi.opened;have HXI:=Lib.hid hxi;have HT:=Lib.hid ht;have HZ:Hid (∀ y ∈ ins.map (fun x=>Q0g x 0 100000),y = 0):=Lib.hid (Y3f fun k _=>hi k);have HLE:Hid (ins.length <= 4096):=Lib.hid (by rw [hl]; omega)
 obtain ⟨n,hn⟩:∃ z,x.nodes.length = z:=⟨_,rfl⟩;obtain ⟨m,hm⟩:∃ z,x.links.length = z:=⟨_,rfl⟩;rw [hn] at hl ⊢;rw [hm];have hne:((ins.length:Int) != (n:Int)) = false:=by rw [hl]; simp
 clear h2 hxi hi ht hle hn hm hl;go_enter Tryz.func86,Tryz.ntmps86;go_upto_region 1 with fail;obtain ⟨W,hWW,k0,k1,HXW,eW⟩:=Q6u w 40 #[.slice A n capa,.slice L m capl] 49 #[.int .i64 td,.bool op,.slice X ins.length capx];rw [hWW];clear hWW;obtain ⟨g,hg⟩:∃ z,w.heap.size = z:=⟨_,rfl⟩;rw [hg] at k0 k1 eW ⊢;have K0:=Lib.hid k0;have K1:=Lib.hid k1;have hdr:=(Ext.refl W).drew;clear k0 k1 eW hg;refine Flow.Q1q [.p,.w,.w,.p,.w,.p,.p,.w,.p,.p,.w,.p,.w,.w,.w,.w,.w,.p] [0,1,2,3,4,5,6,7,8,9,10,11,12,13,14,15,16,17] [[],[0],[1],[],[3],[4],[],[6],[7],[5,8],[2,9],[],[11],[10,12],[13],[2,10,14],[14,15],[0,1,2,3,4,5,6,7,8,9,10,11,12,13,14,15,16]]
  [.c 0 (.pointer (some ⟨g + 1,0,none⟩)),.c 1 (.int .i64 td),.c 2 (.int .i64 0),.c 3 (.pointer (some ⟨g + 1,2,none⟩)),.c 4 (.slice X ins.length capx),.c 5 (.int .i64 ((ins.length:Nat):Int)),.c 6 (.pointer (some ⟨g,0,none⟩)),.c 7 (.slice A n capa),.c 8 (.int .i64 ((n:Nat):Int)),.c 9 (.bool false),.c 10 (.int .i64 0),.c 11 (.pointer (some ⟨g + 1,2,none⟩)),.c 12 (.slice X ins.length capx),⟨fun v wz=>(fun v w'=>Q0e w' (v 13) (ins.map fun x=>Q0g x 0 100000)) v wz,by intro v a b hx h; exact Q0e.ext h hx⟩,.c 14 (.int .i64 0),⟨fun v wz=>Q0e wz (v 15) [0,0,0],fun _ _ _ hx h=>h.ext hx⟩,.c 16 (.int .i64 0),.c 17 (.int .i64 0)]
  (by kernel_rfl) rfl (by kernel_rfl) ⟨?g0,?g1,?g2,?g3,?g4,?g5,?g6,?g7,?g8,?g9,?g10,?g11,?g12,?g13,?g14,?g15,?g16,?g17,trivial⟩ ?post
 case g0 | g3 | g6 | g11=>
  intro v w1 hx;intro bb hbb;subst hbb;refine ⟨_,fun w=>?_,rfl⟩;go_simp
 case g1 | g4 | g7 | g12=>
  intro v w1 hx;(repeat intro (zq:v _ = _));intro bb hbb;subst hbb;have n0:w1.cell? ⟨g + 1,0,none⟩ = some (.int .i64 td):=(K1.out.ext (hdr.trans hx)).cell 0;have n1:w1.cell? ⟨g + 1,2,none⟩ = some (.slice X ins.length capx):=(K1.out.ext (hdr.trans hx)).cell 2;have n2:w1.cell? ⟨g,0,none⟩ = some (.slice A n capa):=(K0.out.ext (hdr.trans hx)).cell 0;intro K hK;go_simp;exact hK _ _ (Ext.refl _) rfl
 case g2=>
  intro v w1 hx;(repeat intro (zq:v _ = _));intro bb hbb;subst hbb;intro K hK;go_simp;refine Q0f (J8u w1 td HT.out) ?_;rintro e w2 ⟨rfl,rfl⟩;exact ⟨_,rfl,hK _ _ (Ext.refl _) rfl⟩
 case g5 | g8 | g9=>
  intro v w1 hx;(repeat intro (zq:v _ = _));intro bb hbb;subst hbb;refine ⟨_,fun w=>?_,rfl⟩;go_simp
 case g10=>
  intro v w1 hx;(repeat intro (zq:v _ = _));intro bb hbb;subst hbb;intro K hK;go_simp;refine Q0f (X3t w1 false 2 rfl) ?_;rintro e w2 ⟨rfl,rfl⟩;exact ⟨_,rfl,hK _ _ (Ext.refl _) rfl⟩
 case g13=>
  intro v w1 hx;(repeat intro (zq:v _ = _));intro bb hbb;subst hbb;intro K hK;go_simp;refine Q0f (Y6r w1 _ ins (HXI.out.ext (HXW.out.trans (hdr.trans hx))) HLE.out) ?_;rintro e w2 ⟨x,rfl,h1,hx2⟩;exact ⟨_,rfl,hK _ _ hx2 h1⟩
 case g14=>
  intro v w1 hx (q13:(fun v w'=>Q0e w' (v 13) (ins.map fun x=>Q0g x 0 100000)) v w1);intro bb hbb;subst hbb;intro K hK;go_simp;refine Q0f (Q7r w1 _ _ q13 HZ.out) ?_;rintro e w2 ⟨rfl,rfl⟩;exact ⟨_,rfl,hK _ _ (Ext.refl _) rfl⟩
 case g15=>
  intro v w1 hx;(repeat intro (zq:v _ = _));intro bb hbb;subst hbb;intro K hK;go_simp;exact hK _ _ (Ext.box _ _) (Q2l (l:=[0,0,0]) (by simp))
 case g16=>
  intro v w1 hx (q14:v 14 = _) (q15:Q0e w1 (v 15) [0,0,0]);intro bb hbb;subst hbb;intro K hK;go_simp;refine Q0f (Q7r w1 _ [0,0,0] q15 (by simp)) ?_
  rintro e w2 ⟨rfl,rfl⟩;exact ⟨_,rfl,hK _ _ (Ext.refl _) rfl⟩
 case g17=>
  intro v w1 hx (q0:v 0 = _) (q1:v 1 = _) (q2:v 2 = _) (q3:v 3 = _) (q4:v 4 = _) (q5:v 5 = _) (q6:v 6 = _) (q7:v 7 = _) (q8:v 8 = _) (q9:v 9 = _) (q10:v 10 = _) (q11:v 11 = _) (q12:v 12 = _) _ (q14:v 14 = _) _ (q16:v 16 = _);intro bb hbb;subst hbb;refine ⟨_,fun w=>?_,rfl⟩;go_simp
 case post =>
  intro v w1 hx;(iterate 13 intro (zq:v _ = _));intro (q13:(fun v w'=>Q0e w' (v 13) (ins.map fun x=>Q0g x 0 100000)) v w1);(iterate 1 intro (zq:v _ = _));intro (q15:Q0e w1 (v 15) [0,0,0]);(iterate 2 intro (zq:v _ = _));simp only [Flow.All,Flow.acts,Act.put];go_simp;have HX9:=Lib.hid (HXW.out.trans (hdr.trans hx));clear hx hdr q13 q15;go_wp2;go_ret;exact ⟨rfl,HX9.out⟩
end Go.Proofs
namespace Go.Proofs
open Go.RowKit Go.Tw Go.Flow Go.Ba
attribute [local go_sem] Oper.semAt_some
theorem J3d {W0 W:World} {x:Q1j} {V:List Int} {l:List Cond} {ps:List PsV} (h:Y4h W0 W x V l ps) (hx:Ext W0 W):Y4h W W x V l ps:=fun k hk=>⟨(h k hk).1,(h k hk).2.1,⟨(h k hk).2.2.inflow.ext hx,(h k hk).2.2.flows,(h k hk).2.2.vols⟩⟩
theorem Tryz.J9h (w:World):(isAgg 49).run Tryz.prog w = .ok true w:=by kernel_rfl
theorem Tryz.J5z (w:World):(sizeOf 49).run Tryz.prog w = .ok 3 w:=by kernel_rfl
theorem Y6y (w:World) (x:Q1j) (v vb:Value) (l:List Cond) (hv:Q2p w v l) (hb:Q2g w vb x) (hco:Q7t x l) (hle:x.nodes.length <= 8) (hm:l.length <= 96) :
    Calls Tryz.prog 85 #[v,.func (.func 86) #[vb] #[]] w fun e w'=>∃ r,e = .returned r /\ Q0e w' r (List.replicate l.length 0) /\ Ext w w':=by
 obtain ⟨i0,hi,hz0,hz1,hz2⟩:=info_parts Tryz.X4d;obtain ⟨A1,cap,rfl,-,-,-⟩:=hv.opened;have HV:=Lib.hid hv;have HCO:=Lib.hid hco;have HB:=Lib.hid hb;have HL:=Lib.hid hm;have HN8:=Lib.hid hle;have hen:=enters_of Tryz.func86 (by kernel_rfl) rfl
 obtain ⟨m,hmm⟩:∃ z,l.length = z:=⟨_,rfl⟩;have HM:=Lib.hid hmm;rw [hmm];clear hv hco hb hm hmm hle;go_enter Tryz.func85,Tryz.ntmps85;go_wp2
 go_loopw [5,10] (fun o i wr=>∃ k:Nat,k <= m /\ i = .int .i64 k /\ Q0i wr w.heap.size 34 (.int .i64) o (List.replicate k 0) /\ Ext w wr) (fun _ i _=>m - (intOf i).toNat)
 case atStart=>exact ⟨0,Nat.zero_le _,rfl,Q0i.nil _ _ _ _,Ext.refl _⟩
 case round =>
  obtain ⟨k,hk,rfl,hown,hx⟩:=hrel;have HOWN:=Lib.hid hown;have HXR:=Lib.hid hx
  by_cases hlt:k < m
  . have hkI:(k:Int) < (m:Int):=by omega
    have HK:=Lib.hid hlt;have HWK:Hid (wrap64 ((k:Int) + 1) = (k:Int) + 1):=Lib.hid (by have:=HL.out; have:=HM.out; unfold wrap64; omega)
    obtain ⟨L9,c9,h9,-,-,hcx⟩:=(HV.out.ext hx).opened;obtain ⟨bx,ox,a,hbx,-,d0,d1,d2,ha⟩:=hcx k (by rw [HM.out]; exact hlt)
    rw [HM.out] at h9;injection h9 with k1 k2 k3;subst k1 k3;subst hbx;have hcl:=HCO.out.len k (by rw [HM.out]; exact hlt)
    have hci:=HCO.out.inflow k (by rw [HM.out]; exact hlt)
    have hct:=HCO.out.tide k (by rw [HM.out]; exact hlt)
    obtain ⟨c,hcc⟩:∃ z,cd l k = z:=⟨_,rfl⟩;rw [hcc] at d0 d1 ha hcl hci hct;obtain ⟨td,op,ins⟩:=c;dsimp only at d0 d1 ha hcl hci hct;obtain ⟨AI,capi,rfl,-,-,-⟩:=ha.opened;have HCALL:Hid (∀ W,Ext wr W -> Calls Tryz.prog 86 #[vb,.agg #[.int .i64 td,.bool op,.slice AI ins.length capi]] W fun e w'=>e = .returned (.int .i64 0) /\ Ext W w'):=Lib.hid fun W hw =>
     Y4e W _ _ x ⟨td,op,ins⟩ (HB.out.ext (HXR.out.trans hw)) ⟨_,rfl,ha.ext hw⟩ hcl hci hct HN8.out
    obtain ⟨ni,hni⟩:∃ z,ins.length = z:=⟨_,rfl⟩;rw [hni] at d2 HCALL;clear hcx hcc hown hx k2 hk hlt ha hcl hci hct hni;go_upto_region 5 with fail;clear d0 d1 d2;have hxb:=Ext.box wr (.cells #[.int .i64 td,.bool op,.slice AI ni capi] 49);have hkb:=Blk.made wr 49 #[.int .i64 td,.bool op,.slice AI ni capi];obtain ⟨gl,hgl⟩:∃ z,wr.heap.size = z:=⟨_,rfl⟩;obtain ⟨W7,hW7⟩:∃ z,wr.alloc (.cells #[.int .i64 td,.bool op,.slice AI ni capi] 49) = z:=⟨_,rfl⟩;rw [hW7,hgl] at hkb;rw [hW7] at hxb ⊢;rw [hgl];have HKB:=Lib.hid hkb;have HXB:=Lib.hid hxb;clear hW7 hxb hkb hgl;go_wp2_with (first | (refine Q0j rfl _ _ rfl Tryz.J9h Tryz.J5z rfl HKB.out rfl ?_) | fail)
    refine (HCALL.out _ HXB.out).mono ?_;rintro e w8 ⟨rfl,hx8⟩;have hx:=HXR.out.trans (HXB.out.trans hx8);have hown:=HOWN.out.below (HXB.out.trans hx8);have hll:(List.replicate k (0:Int)).length <= 4096:=by rw [List.length_replicate]; have:=HK.out; have:=HL.out; have:=HM.out; omega
    clear HKB HXB hx8 HCALL;go_wp2_with (at_builtin; refine wpList_append_own _ rfl _ _ 178 rfl (w.heap.size) 34 i0 (.int .i64 0) 1 8 Tryz.underlying178 hi hz0 hz1 hz2 rfl (by decide) _ _ _ rfl (World.ownsRow.alloc hown _) ⟨w8.heap.size,0,none⟩ 1 1 [.int .i64 0] rfl rfl ?_ ?_ ?_ ?_ ?_ ?_; exact Q4p _ _ _; (focus (simp [Value.oneCell'])); (focus (unfold maxLen; omega)); (focus omega); (focus (have:=hx.size; simp at this ⊢; omega)); intro v' w1 hown' hgrow _)
    have hx':=Q3b hx hown (Nat.le_refl _) hgrow;go_wp2;go_roundw
    case rel=>exact ⟨k + 1,by have:=HK.out; omega,by (try rw [HWK.out]); go_num,by have h:=Q0i.snoc hown'; rwa [<- List.replicate_succ'] at h,hx'⟩
    case measure=>have:=HK.out; (try rw [HWK.out]); simp [intOf]; omega
  . obtain rfl:k = m:=by omega
    have hkI:¬ (k:Int) < (k:Int):=by omega
    have HLE:Hid ((List.replicate k (0:Int)).length <= 17592186043904):=Lib.hid (by rw [List.length_replicate]; have:=HL.out; have:=HM.out; omega)
    clear hown hx;go_wp2;go_ret;exact ⟨_,rfl,HOWN.out.ints HLE.out,HXR.out⟩
theorem X4q (w:World) (vb vv:Value) (x:Q1j) (V:List Int) (hb:Q2g w vb x) (hv:Q0e w vv V) (hx:x.Fine) (hl:V.length = x.nodes.length) (hbn:Bnd V 100000000) :
    Calls Tryz.prog 84 #[vb,vv] w fun e w'=>e = .returned (.int .i64 0) /\ Ext w w':=by
 obtain ⟨va,vl,rfl,h2⟩:=hb;obtain ⟨A,capa,rfl,-,-,-⟩:=h2.nodes.opened;obtain ⟨L,capl,rfl,-,-,-⟩:=h2.links.opened;obtain ⟨C,capc,rfl,-,-,-⟩:=hv.opened;have HB:Hid (∀ W,Ext w W -> Q2g W (.agg #[.slice A x.nodes.length capa,.slice L x.links.length capl]) x):=Lib.hid fun W h=>⟨_,_,rfl,h2.ext h⟩;have HV:=Lib.hid hv;have HF:=Lib.hid hx;have HL:=Lib.hid hl;have HBN:=Lib.hid hbn;have HLE:Hid (V.length <= 4096):=Lib.hid (by rw [hl]; have:=hx.ok.some; omega)
 obtain ⟨n,hn⟩:∃ z,x.nodes.length = z:=⟨_,rfl⟩;obtain ⟨m,hm⟩:∃ z,x.links.length = z:=⟨_,rfl⟩;rw [hn,hm] at HB;rw [hn,hm];clear h2 hv hx hl hbn hn hm;go_enter Tryz.func84,Tryz.ntmps84;go_upto_region 1 with fail;obtain ⟨W,hWW,k0,HXW,eW⟩:=Q2y w 40 #[.slice A n capa,.slice L m capl];rw [hWW];clear hWW;obtain ⟨g,hg⟩:∃ z,w.heap.size = z:=⟨_,rfl⟩;rw [hg] at k0 eW ⊢;have K0:=Lib.hid k0;have hdr:=(Ext.refl W).drew;clear k0 eW hg;refine Flow.Q1q [.w,.w,.w,.p,.w,.w,.w,.p] [0,1,2,3,4,5,6,7] [[],[0],[],[],[1,2,3],[1,4],[4,5],[0,1,2,3,4,5,6]]
  [.c 0 (.agg #[.slice A n capa,.slice L m capl]),.c 1 (.int .i64 0),.c 2 (.agg #[.slice A n capa,.slice L m capl]),.c 3 (.slice C V.length capc),.c 4 (.int .i64 0),⟨fun v wz=>Q0e wz (v 5) [0,0],fun _ _ _ hx h=>h.ext hx⟩,.c 6 (.int .i64 0),.c 7 (.int .i64 0)]
  (by kernel_rfl) rfl (by kernel_rfl) ⟨?g0,?g1,?g2,?g3,?g4,?g5,?g6,?g7,trivial⟩ ?post
 case g0 | g2=>
  intro v w1 hx;intro bb hbb;intro K hK;have o1:bb.eval (.tmp 2) = .pointer (some ⟨g,0,none⟩):=by rw [hbb]; dsimp only; (try simp (discharger:=decide) only [eval_put_ne]); rfl
  exact Q0x (.tmp 2) _ rfl Tryz.X5v Tryz.X0c o1 (K0.out.ext (hdr.trans hx)) rfl (hK _ _ (Ext.refl _) rfl)
 case g1=>
  intro v w1 hx;(repeat intro (zq:v _ = _));intro bb hbb;subst hbb;intro K hK;go_simp;refine Q0f (Y1w w1 _ x (HB.out w1 (HXW.out.trans (hdr.trans hx))) HF.out) ?_;rintro e w2 ⟨rfl,hx2⟩;exact ⟨_,rfl,hK _ _ hx2 rfl⟩
 case g3=>
  intro v w1 hx;intro bb hbb;subst hbb;refine ⟨_,fun w=>?_,rfl⟩;go_simp
 case g4=>
  intro v w1 hx;(repeat intro (zq:v _ = _));intro bb hbb;subst hbb;intro K hK;go_simp;refine Q0f (Z8w w1 _ _ x V (HB.out w1 (HXW.out.trans (hdr.trans hx))) (HV.out.ext (HXW.out.trans (hdr.trans hx))) HL.out HBN.out HLE.out) ?_;rintro e w2 ⟨rfl,hx2⟩;exact ⟨_,rfl,hK _ _ hx2 rfl⟩
 case g5=>
  intro v w1 hx;(repeat intro (zq:v _ = _));intro bb hbb;subst hbb;intro K hK;go_simp;exact hK _ _ (Ext.box _ _) (Q2l (l:=[0,0]) (by simp))
 case g6=>
  intro v w1 hx (q4:v 4 = _) (q5:Q0e w1 (v 5) [0,0]);intro bb hbb;subst hbb;intro K hK;go_simp;refine Q0f (Q7r w1 _ [0,0] q5 (by simp)) ?_
  rintro e w2 ⟨rfl,rfl⟩;exact ⟨_,rfl,hK _ _ (Ext.refl _) rfl⟩
 case g7=>
  intro v w1 hx (q0:v 0 = _) (q1:v 1 = _) (q2:v 2 = _) (q3:v 3 = _) (q4:v 4 = _) _ (q6:v 6 = _);intro bb hbb;subst hbb;refine ⟨_,fun w=>?_,rfl⟩;go_simp
 case post =>
  intro v w1 hx;(iterate 5 intro (zq:v _ = _));intro (q5:Q0e w1 (v 5) [0,0]);(iterate 2 intro (zq:v _ = _));simp only [Flow.All,Flow.acts,Act.put];go_simp;have HX9:=Lib.hid (HXW.out.trans (hdr.trans hx));clear hx hdr q5;go_wp2;go_ret;exact ⟨rfl,HX9.out⟩
theorem X7t (w:World) (vb vv vc:Value) (x:Q1j) (V:List Int) (l:List Cond)
    (hb:Q2g w vb x) (hV:Q0e w vv V) (hc:Q2p w vc l) (hf:x.Fine) (hlen:V.length = x.nodes.length) (hbn:Bnd V 100000000) (hco:Q7t x l) (hlm:l.length <= 96) :
    Calls Tryz.prog 34 #[vb,vv,vc] w fun e w'=>∃ v ps er,e = .returned (.tuple #[v,.int .i64 er]) /\ Q9g w' v ps /\ Y0n x V l er ps /\ Y4h w' w' x V l ps /\ Ext w w':=by
 obtain ⟨va,vl,rfl,h2⟩:=hb;obtain ⟨A,capa,rfl,-,-,-⟩:=h2.nodes.opened;obtain ⟨L,capl,rfl,-,-,-⟩:=h2.links.opened;obtain ⟨C,capc,rfl,-,-,-⟩:=hV.opened;obtain ⟨D,capd,rfl,-,-,-⟩:=hc.opened;have HB:Hid (∀ W,Ext w W -> Q2g W (.agg #[.slice A x.nodes.length capa,.slice L x.links.length capl]) x):=Lib.hid fun W h=>⟨_,_,rfl,h2.ext h⟩;have HV:=Lib.hid hV;have HC:=Lib.hid hc;have HF:=Lib.hid hf;have HL:=Lib.hid hlen;have HBN:=Lib.hid hbn;have HCO:=Lib.hid hco;have HLM:=Lib.hid hlm;have HN8:Hid (x.nodes.length <= 8):=Lib.hid hf.ok.some.2;have hgt:decide ((96:Int) < (l.length:Int)) = false:=by simp; omega
 obtain ⟨n,hn⟩:∃ z,x.nodes.length = z:=⟨_,rfl⟩;obtain ⟨m,hm⟩:∃ z,x.links.length = z:=⟨_,rfl⟩;rw [hn,hm] at HB;rw [hn,hm];clear h2 hV hc hf hlen hbn hco hlm hn hm;go_enter Tryz.func34,Tryz.ntmps34;go_upto_region 1 with fail;obtain ⟨W,hWW,k0,HXW,eW⟩:=Q2y w 40 #[.slice A n capa,.slice L m capl];rw [hWW];clear hWW;obtain ⟨g,hg⟩:∃ z,w.heap.size = z:=⟨_,rfl⟩;rw [hg] at k0 eW ⊢;have K0:=Lib.hid k0;have hdr:=(Ext.refl W).drew;clear k0 eW hg;refine Flow.Q1q [.w,.p,.w,.p,.p,.p,.w,.p,.w,.p,.w,.w,.w,.w,.p] [0,1,2,3,4,5,6,7,8,9,10,11,12,13,14] [[],[],[0,1],[],[3],[4],[2,5],[],[],[8],[6,7,9],[10],[2,6,11],[11,12],[0,1,2,3,4,5,6,7,8,9,10,11,12,13]]
  [.c 0 (.agg #[.slice A n capa,.slice L m capl]),.c 1 (.slice C V.length capc),.c 2 (.int .i64 0),.c 3 (.slice D l.length capd),.c 4 (.int .i64 ((l.length:Nat):Int)),.c 5 (.bool false),.c 6 (.int .i64 0),.c 7 (.slice D l.length capd),.c 8 (.agg #[.slice A n capa,.slice L m capl]),.c 9 (.func (.func 86) #[.agg #[.slice A n capa,.slice L m capl]] #[]),⟨fun v wz=>(fun v w'=>Q0e w' (v 10) (List.replicate l.length 0)) v wz,by intro v a b hx h; exact Q0e.ext h hx⟩,.c 11 (.int .i64 0),⟨fun v wz=>Q0e wz (v 12) [0,0,0],fun _ _ _ hx h=>h.ext hx⟩,.c 13 (.int .i64 0),.c 14 (.int .i64 0)]
  (by kernel_rfl) rfl (by kernel_rfl) ⟨?g0,?g1,?g2,?g3,?g4,?g5,?g6,?g7,?g8,?g9,?g10,?g11,?g12,?g13,?g14,trivial⟩ ?post
 case g0 | g8=>
  intro v w1 hx;intro bb hbb;intro K hK;have o1:bb.eval (.tmp 3) = .pointer (some ⟨g,0,none⟩):=by rw [hbb]; dsimp only; (try simp (discharger:=decide) only [eval_put_ne]); rfl
  exact Q0x (.tmp 3) _ rfl Tryz.X5v Tryz.X0c o1 (K0.out.ext (hdr.trans hx)) rfl (hK _ _ (Ext.refl _) rfl)
 case g1 | g3 | g7=>
  intro v w1 hx;intro bb hbb;subst hbb;refine ⟨_,fun w=>?_,rfl⟩;go_simp
 case g2=>
  intro v w1 hx;(repeat intro (zq:v _ = _));intro bb hbb;subst hbb;intro K hK;go_simp;refine Q0f (X4q w1 _ _ x V (HB.out w1 (HXW.out.trans (hdr.trans hx))) (HV.out.ext (HXW.out.trans (hdr.trans hx))) HF.out HL.out HBN.out) ?_;rintro e w2 ⟨rfl,hx2⟩;exact ⟨_,rfl,hK _ _ hx2 rfl⟩
 case g4 | g5 | g9=>
  intro v w1 hx;(repeat intro (zq:v _ = _));intro bb hbb;subst hbb;refine ⟨_,fun w=>?_,rfl⟩;go_simp
 case g6=>
  intro v w1 hx;(repeat intro (zq:v _ = _));intro bb hbb;subst hbb;intro K hK;go_simp;refine Q0f (X3t w1 false 5 rfl) ?_;rintro e w2 ⟨rfl,rfl⟩;exact ⟨_,rfl,hK _ _ (Ext.refl _) rfl⟩
 case g10=>
  intro v w1 hx;(repeat intro (zq:v _ = _));intro bb hbb;subst hbb;intro K hK;go_simp;refine Q0f (Y6y w1 x _ _ l (HC.out.ext (HXW.out.trans (hdr.trans hx))) (HB.out w1 (HXW.out.trans (hdr.trans hx))) HCO.out HN8.out HLM.out) ?_;rintro e w2 ⟨r,rfl,h1,hx2⟩;exact ⟨_,rfl,hK _ _ hx2 h1⟩
 case g11=>
  intro v w1 hx (q10:(fun v w'=>Q0e w' (v 10) (List.replicate l.length 0)) v w1);intro bb hbb;subst hbb;intro K hK;go_simp;refine Q0f (Q7r w1 _ _ q10 (fun y hy=>(List.mem_replicate.1 hy).2)) ?_;rintro e w2 ⟨rfl,rfl⟩;exact ⟨_,rfl,hK _ _ (Ext.refl _) rfl⟩
 case g12=>
  intro v w1 hx;(repeat intro (zq:v _ = _));intro bb hbb;subst hbb;intro K hK;go_simp;exact hK _ _ (Ext.box _ _) (Q2l (l:=[0,0,0]) (by simp))
 case g13=>
  intro v w1 hx (q11:v 11 = _) (q12:Q0e w1 (v 12) [0,0,0]);intro bb hbb;subst hbb;intro K hK;go_simp;refine Q0f (Q7r w1 _ [0,0,0] q12 (by simp)) ?_
  rintro e w2 ⟨rfl,rfl⟩;exact ⟨_,rfl,hK _ _ (Ext.refl _) rfl⟩
 case g14=>
  intro v w1 hx (q0:v 0 = _) (q1:v 1 = _) (q2:v 2 = _) (q3:v 3 = _) (q4:v 4 = _) (q5:v 5 = _) (q6:v 6 = _) (q7:v 7 = _) (q8:v 8 = _) (q9:v 9 = _) _ (q11:v 11 = _) _ (q13:v 13 = _);intro bb hbb;subst hbb;refine ⟨_,fun w=>?_,rfl⟩;go_simp
 case post =>
  intro v w1 hx;(iterate 10 intro (zq:v _ = _));intro (q10:(fun v w'=>Q0e w' (v 10) (List.replicate l.length 0)) v w1);(iterate 1 intro (zq:v _ = _));intro (q12:Q0e w1 (v 12) [0,0,0]);(iterate 2 intro (zq:v _ = _));simp only [Flow.All,Flow.acts,Act.put];go_simp;have hx9:=HXW.out.trans (hdr.trans hx);have HX9:=Lib.hid hx9;have HK9:=Lib.hid (K0.out.ext (hdr.trans hx));have hrun:=run_any w1 _ _ _ x V l (HB.out w1 hx9) (HV.out.ext hx9) (HC.out.ext hx9) HF.out.ok HL.out HBN.out HCO.out (by have:=HLM.out; omega)
  have HRUN:=Lib.hid hrun;clear hx hdr hx9 hrun q10 q12 hgt;go_wp2_with (first | (refine Q0j rfl _ _ rfl Tryz.X5v Tryz.X0c rfl HK9.out rfl ?_) | fail)
  refine HRUN.out.mono ?_;rintro e w4 ⟨v,ps,er,rfl,hip,hr,hp,hx4⟩;have HIP:=Lib.hid hip;have HR:=Lib.hid hr;have HP:=Lib.hid (J3d hp hx4);have HX4:=Lib.hid (HX9.out.trans hx4);clear hip hr hp hx4;go_wp2;go_ret2;exact ⟨_,_,_,rfl,HIP.out,HR.out,HP.out,HX4.out⟩
end Go.Proofs
namespace Go.Tw
open Go.Ba
def Z7u (x:Q1j) (V:List Int):Nat -> List Int
 | 0=>V
 | k + 1=>(Z7u x V k).set k (ix V k / Q6m x.nodes k)
theorem X0m (x:Q1j) (V:List Int):∀ k,(Z7u x V k).length = V.length
 | 0=>rfl
 | k + 1=>by unfold Z7u; rw [List.length_set,X0m x V k]
theorem Z1v (x:Q1j) (V:List Int):∀ k,k <= V.length -> ∀ j,ix (Z7u x V k) j = if j < k then ix V j / Q6m x.nodes j else ix V j
 | 0,_,j=>by rw [if_neg (Nat.not_lt_zero _)]; rfl
 | k + 1,hk,j=>by
   unfold Z7u;rw [Z5d _ (by rw [X0m]; omega),Z1v x V k (by omega)]
   by_cases e:k = j
   . subst e; rw [if_pos rfl,if_pos (Nat.lt_succ_self _)]
   . rw [if_neg e]
     by_cases h:j < k
     . rw [if_pos h,if_pos (by omega)]
     . rw [if_neg h,if_neg (by omega)]
end Go.Tw
namespace Go.Proofs
open Go.RowKit Go.Tw Go.Flow Go.Ba
attribute [local go_sem] Oper.semAt_some
theorem Tryz.J6g (w:World):(isAgg 40).run Tryz.prog w = .ok true w:=by kernel_rfl
theorem Tryz.J4h (w:World):(sizeOf 40).run Tryz.prog w = .ok 2 w:=by kernel_rfl
theorem Tryz.J9y (w:World):(isAgg 105).run Tryz.prog w = .ok true w:=by kernel_rfl
theorem Tryz.J8t (w:World):(sizeOf 105).run Tryz.prog w = .ok 3 w:=by kernel_rfl
theorem Z5r (w:World) (vb vv:Value) (x:Q1j) (V:List Int) (hv:Q2g w vb x) (hV:Q0e w vv V) (hb:x.Ok) (hl:V.length = x.nodes.length) (hbn:Bnd V 100000000) :
    Calls Tryz.prog 87 #[vb,vv] w fun e w'=>∃ b,e = .returned (.slice (some ⟨b,0,none⟩) x.nodes.length x.nodes.length) /\ Q0e w' (.slice (some ⟨b,0,none⟩) x.nodes.length x.nodes.length) (Z7u x V x.nodes.length) /\ Ext w w':=by
 obtain ⟨i0,hi,hz0,hz1,hz2⟩:=info_parts Tryz.info3;obtain ⟨va,vl,rfl,h2⟩:=hv;obtain ⟨A,capa,rfl,-,-,-⟩:=h2.nodes.opened;obtain ⟨L,capl,rfl,-,-,-⟩:=h2.links.opened;obtain ⟨VA,capv,rfl,-,-,hcv⟩:=hV.opened;have H2:=Lib.hid h2;have HOK:=Lib.hid hb;have HVB:=Lib.hid hbn;obtain ⟨n,hn⟩:∃ z,x.nodes.length = z:=⟨_,rfl⟩;obtain ⟨m,hm⟩:∃ z,x.links.length = z:=⟨_,rfl⟩;have HN:=Lib.hid hn;have HL:=Lib.hid (hl.trans hn);have HN8:Hid (1 <= n /\ n <= 8):=Lib.hid (by rw [<- hn]; exact hb.some)
 have hn8:=HN8.out;rw [hl] at hcv ⊢;rw [hn] at hcv ⊢;rw [hm];have HCV:Hid (∀ j u,(V.map (Value.int .i64))[j]? = some u -> ∃ b off,VA = some ⟨b,off,none⟩ /\ w.cell? ⟨b,off + j,none⟩ = some u):=Lib.hid (fun j u hj=>by
  rw [List.getElem?_map] at hj;obtain ⟨y,hy,rfl⟩:=Option.map_eq_some_iff.1 hj;obtain ⟨hjl,rfl⟩:=List.getElem?_eq_some_iff.1 hy;obtain ⟨b,off,he,hcell⟩:=hcv j (by have:=HL.out; omega)
  exact ⟨b,off,he,by rw [hcell,Q5p hjl]⟩)
 have HFL:Hid ((V.map (Value.int .i64)).length = n * 1):=Lib.hid (by rw [List.length_map,HL.out]; omega)
 have HFS:Hid ((V.map (Value.int .i64)).length = (madeCells #[Value.int .i64 0] n).size):=Lib.hid (by rw [HFL.out]; simp [madeCells])
 have HONE:Hid (∀ u ∈ V.map (Value.int .i64),u.oneCell' = true):=Lib.hid (fun u hu=>by obtain ⟨y,_,rfl⟩:=List.mem_map.1 hu; rfl)
 clear hcv h2 hb hbn hn hm hl hV;go_enter Tryz.func87,Tryz.ntmps87;go_wp2_with (refine Q1g (o:=⟨some 10,_,_,_,_,_⟩) rfl ?_; refine X5i (.tmp 9) _ _ rfl i0 _ 1 8 Tryz.underlying44 hi hz0 hz1 hz2 n rfl (by omega) (by decide) ?_; refine halted ?_)
 unfold Q1x;obtain ⟨W,hWW,k0,k1,HXW,eW⟩:=Q6u w 40 #[.slice A n capa,.slice L m capl] 3 (madeCells #[.int .i64 0] n);rw [hWW];clear hWW;obtain ⟨g,hg⟩:∃ z,w.heap.size = z:=⟨_,rfl⟩;have HG:=Lib.hid hg;rw [hg] at k0 k1 eW ⊢;obtain ⟨b,hb⟩:∃ z,g + 1 = z:=⟨_,rfl⟩;rw [hb] at k1 eW ⊢;have HB:=Lib.hid hb;have K0:=Lib.hid k0;have K1:=Lib.hid k1;clear k0 k1 eW hb hg;go_upto_region 2 with fail;go_wp2_with (refine Q9c rfl (.tmp 11) (.tmp 12) _ _ rfl 3 Tryz.underlying44 (sz:=1) Tryz.Y4d (n:=n) (g:=b) rfl rfl K1.out (V.map (Value.int .i64)) (by rw [HFL.out]) (fun j u hj=>by obtain ⟨b',o',e1,e2⟩:=HCV.out j u hj; exact ⟨b',o',e1,HXW.out.cell e2⟩) (by rw [HFS.out]; exact Nat.le_refl _) HONE.out ?_; intro w4 hb4 hl4 ho4; refine halted ?_)
 unfold Q1x;rw [X3i _ _ HFS.out] at hb4;have HX4:Hid (Ext w w4):=Lib.hid (Below.trans HXW.out (hl4 _ (by have:=HG.out; have:=HB.out; omega)))
 have K04:=Lib.hid (K0.out.below (hl4 b (Nat.le_refl _)) (by have:=HB.out; omega))
 have HB4:Hid (Blk w4 b 3 (Z2a V)):=Lib.hid hb4;have c0:=K04.out.cell 0;simp only [Go.Tw.gA,Go.Tw.gB] at c0;clear hb4 hl4 ho4 K0 K1;go_wp2_with fail;clear c0
 go_loopw [17] (fun iv wr=>∃ k:Nat,k <= n /\ iv = .int .i64 k /\ Blk wr b 3 (Z2a (Z7u x V k)) /\ Below b w4 wr) (fun iv _=>n - (intOf iv).toNat)
 case atStart=>exact ⟨0,Nat.zero_le _,rfl,HB4.out,Below.refl _ _⟩
 case round =>
  obtain ⟨k,hk,rfl,hbk,hlow⟩:=hrel;have HBK:=Lib.hid hbk;have HLO:=Lib.hid hlow;have HXR:Hid (Ext w wr):=Lib.hid (Below.trans HX4.out (hlow.mono (by have:=HG.out; have:=HB.out; omega)))
  by_cases hlt:k < n
  . have hkI:(k:Int) < (n:Int):=by omega
    have HK:=Lib.hid hlt;have HWK:Hid (wrap64 ((k:Int) + 1) = (k:Int) + 1):=Lib.hid (by have:=HN8.out; unfold wrap64; omega)
    obtain ⟨L9,c9,h9,-,-,hcx⟩:=(H2.out.ext HXR.out).nodes.opened;obtain ⟨bx,ox,hbx,-,d0,d1,d2,-⟩:=hcx k (by rw [HN.out]; exact hlt)
    rw [HN.out] at h9;injection h9 with k1 k2 k3;subst k1 k3;subst hbx;have har0:=HOK.out.areas k (by rw [HN.out]; exact hlt)
    have hvk:ix (Z7u x V k) k = ix V k:=by rw [Z1v x V k (by rw [HL.out]; omega),if_neg (Nat.lt_irrefl _)]
    have hck:=X2q hbk (k:=k) (by rw [X0m,HL.out]; exact hlt)
    rw [hvk] at hck;have hvb:=HVB.out k;have hnext:Z7u x V (k + 1) = (Z7u x V k).set k (ix V k / Q6m x.nodes k):=rfl;obtain ⟨nm,hnm⟩:∃ z,X7d x.nodes k = z:=⟨_,rfl⟩;obtain ⟨ar,har⟩:∃ z,Q6m x.nodes k = z:=⟨_,rfl⟩;obtain ⟨li,hli⟩:∃ z,X2e x.nodes k = z:=⟨_,rfl⟩;obtain ⟨vk,hvk⟩:∃ z,ix V k = z:=⟨_,rfl⟩;rw [hnm] at d0;rw [har] at d1 har0 hnext;rw [hli] at d2;rw [hvk] at hck hvb hnext;have HAR:=Lib.hid har0;have HVK:Hid (0 <= vk /\ vk <= 1000000000000000):=Lib.hid (by omega)
    have HNX:=Lib.hid hnext;have HCK:=Lib.hid hck;clear hcx hnm har hli hvk hbk hlow k2 har0 hvb hnext hk hlt hck;go_upto_region 6 with fail;clear d0 d1 d2;obtain ⟨gl,hgl⟩:∃ z,wr.heap.size = z:=⟨_,rfl⟩;have hxb:=Ext.box wr (.cells (ndC nm ar li) 105);have hkb:=Blk.made wr 105 (ndC nm ar li);obtain ⟨W7,hW7⟩:∃ z,wr.alloc (.cells (ndC nm ar li) 105) = z:=⟨_,rfl⟩;rw [hW7,hgl] at hkb;rw [hW7] at hxb ⊢;rw [hgl];have KL:=Lib.hid hkb;have HXB:=Lib.hid hxb;have hdr:=(Ext.refl W7).drew;clear hW7 hxb hkb hgl;refine Flow.Q4c [.p,.p,.w,.p,.p,.p,.w,.w,.p,.last] [0,1,2,3,4,5,6,7,8,9] [[],[],[],[],[],[3,4],[3,4,5],[2,3,4,5,6],[0,1,2,3,4,5,6,7],[0,1,2,3,4,5,6,7,8]] [9]
     [.c 0 (.slice (some ⟨b,0,none⟩) n n),.c 1 (.int .i64 k),.c 2 (.agg (ndC nm ar li)),.c 3 (.slice (some ⟨b,0,none⟩) n n),.c 4 (.int .i64 k),.c 5 (.pointer (some ⟨b,k,none⟩)),.c 6 (.int .i64 vk),.c 7 (.int .i64 (vk / ar)),.c 8 (.pointer (some ⟨b,k,none⟩)),.none]
     [fun v w1 w'=>w' = w1.setCell ⟨b,k,none⟩ (.int .i64 (vk / ar))] (by kernel_rfl) rfl (by kernel_rfl) ⟨?g0,?g1,?g2,?g3,?g4,?g5,?g6,?g7,?g8,?g9,trivial⟩ ?post
    case g0 | g1 | g3 | g4=>
     intro v w1 hx;intro bb hbb;subst hbb;refine ⟨_,fun w=>?_,rfl⟩;go_simp
    case g2=>
     intro v w1 hx;intro bb hbb;intro K hK;have o1:bb.eval (.tmp 7) = .pointer (some ⟨gl,0,none⟩):=by rw [hbb]; dsimp only; (try simp (discharger:=decide) only [eval_put_ne]); rfl
     exact Q0x (.tmp 7) _ rfl Tryz.J9y Tryz.J8t o1 (KL.out.ext (hdr.trans hx)) rfl (hK _ _ (Ext.refl _) rfl)
    case g5 | g8=>
     intro v w1 hx;(repeat intro (zq:v _ = _));intro bb hbb;subst hbb;have hkI2:=hkI;refine ⟨_,fun w=>?_,rfl⟩;go_simp
    case g6=>
     intro v w1 hx;(repeat intro (zq:v _ = _));intro bb hbb;subst hbb;have n0:=(HXB.out.trans (hdr.trans hx)).cell HCK.out;intro K hK;go_simp;exact hK _ _ (Ext.refl _) rfl
    case g7=>
     intro v w1 hx;(repeat intro (zq:v _ = _));intro bb hbb;subst hbb;intro K hK;go_simp;refine Q0f (Z8l w1 nm ar li vk HAR.out HVK.out) ?_;rintro e w2 ⟨rfl,hx2⟩;exact ⟨_,rfl,hK _ _ hx2 rfl⟩
    case g9=>
     intro v w1 hx;(repeat intro (zq:v _ = _));intro wl hT;obtain rfl:wl = w1:=hT;intro bb hbb;intro K2 hK2;have o1:bb.eval (.tmp 30) = .pointer (some ⟨b,k,none⟩):=by rw [hbb]; dsimp only; (try simp (discharger:=decide) only [eval_put_ne]); rw [Q0a (by simp only [size_put]; exact (by decide:30 < 33))]; assumption
     have o2:bb.eval (.tmp 29) = .int .i64 (vk / ar):=by rw [hbb]; dsimp only; (try simp (discharger:=decide) only [eval_put_ne]); rw [Q0a (by simp only [size_put]; exact (by decide:29 < 33))]; assumption
     exact Q5q _ _ rfl Tryz.Y4d (g:=b) (k:=k) o1 o2 rfl rfl (HBK.out.ext (HXB.out.trans (hdr.trans hx))) (by simp [Z2a,X0m,HL.out]; exact HK.out) (fun v'=>hK2 _ _ rfl)
    case post =>
     intro v w1 hx;(iterate 9 intro (zq:v _ = _));intro w2 hE;replace hE:(fun v w1 w'=>w' = w1.setCell ⟨b,k,none⟩ (.int .i64 (vk / ar))) v w1 w2:=hE;simp only [Flow.acts,Act.put];go_simp;have hxx:=HXB.out.trans (hdr.trans hx);have hb2:=(HBK.out.ext hxx).set k (.int .i64 (vk / ar));rw [Y4a,<- HNX.out] at hb2;have hl2:=(Below.trans HLO.out (hxx.mono (Nat.le_of_lt HBK.out.lt))).setCell (p:=⟨b,k,none⟩) (Nat.le_refl _) (.int .i64 (vk / ar));have HB2:=Lib.hid hb2;have HL2:=Lib.hid hl2;clear hb2 hl2 hxx hx hdr hE KL HXB;(repeat clear zq);go_wp2;go_roundw
     case rel=>exact ⟨k + 1,by have:=HK.out; omega,by (try rw [HWK.out]); go_num,HB2.out,HL2.out⟩
     case measure=>have:=HK.out; (try rw [HWK.out]); simp [intOf]; omega
  . obtain rfl:k = n:=by omega
    have hkI:¬ (k:Int) < (k:Int):=by omega
    clear hbk hlow;go_wp2;go_ret;exact ⟨b,rfl,J1b HBK.out (by rw [X0m,HL.out]) (by have:=HN8.out; omega),HXR.out⟩
def J4n (x:Q1j) (V:List Int) (k:Nat):Bool:=decide (X2e x.nodes k < ix V k / Q6m x.nodes k)
def X1t (x:Q1j) (V:List Int) (k:Nat):List Int:=((List.range k).filter (J4n x V)).map fun j:Nat=>(j:Int)
theorem Y2h (x:Q1j) (V:List Int) (k:Nat):X1t x V (k + 1) = if J4n x V k = true then X1t x V k ++ [(k:Int)] else X1t x V k:=by
 unfold X1t;rw [List.range_succ,List.filter_append,List.map_append]
 by_cases h:J4n x V k = true
 . rw [if_pos h]; simp [h]
 . rw [if_neg h]; simp [h]
theorem Y8u (x:Q1j) (V:List Int) (k:Nat):(X1t x V k).length <= k:=by
 unfold X1t;rw [List.length_map];exact Nat.le_trans (List.length_filter_le _ _) (by simp)
theorem Z8r (w:World) (vb vv:Value) (x:Q1j) (V:List Int) (hv:Q2g w vb x) (hV:Q0e w vv V) (hb:x.Ok) (hl:V.length = x.nodes.length) (hbn:Bnd V 100000000) :
    Calls Tryz.prog 35 #[vb,vv] w fun e w'=>∃ r,e = .returned r /\ Q0e w' r (X1t x V x.nodes.length) /\ Ext w w':=by
 obtain ⟨i0,hi,hz0,hz1,hz2⟩:=info_parts Tryz.info3;obtain ⟨va,vl,rfl,h2⟩:=hv;obtain ⟨A,capa,rfl,-,-,-⟩:=h2.nodes.opened;obtain ⟨L,capl,rfl,-,-,-⟩:=h2.links.opened;have HLV:Hid (∀ W,Ext w W -> Calls Tryz.prog 87 #[.agg #[.slice A x.nodes.length capa,.slice L x.links.length capl],vv] W fun e w'=>∃ b,e = .returned (.slice (some ⟨b,0,none⟩) x.nodes.length x.nodes.length) /\ Q0e w' (.slice (some ⟨b,0,none⟩) x.nodes.length x.nodes.length) (Z7u x V x.nodes.length) /\ Ext W w'):=Lib.hid fun W h =>
  Z5r W _ _ x V ⟨_,_,rfl,h2.ext h⟩ (hV.ext h) hb hl hbn
 have H2:=Lib.hid h2;have HOK:=Lib.hid hb;have HVB:=Lib.hid hbn;obtain ⟨n,hn⟩:∃ z,x.nodes.length = z:=⟨_,rfl⟩;obtain ⟨m,hm⟩:∃ z,x.links.length = z:=⟨_,rfl⟩;have HN:=Lib.hid hn;have HL:=Lib.hid (hl.trans hn);have HN8:Hid (1 <= n /\ n <= 8):=Lib.hid (by rw [<- hn]; exact hb.some)
 rw [hn,hm] at HLV;rw [hn,hm];clear h2 hb hbn hn hm hl hV;go_enter Tryz.func35,Tryz.ntmps35;go_upto_region 2 with fail;obtain ⟨W,hWW,k0,HXW,eW⟩:=Q2y w 40 #[.slice A n capa,.slice L m capl];rw [hWW];clear hWW;obtain ⟨g,hg⟩:∃ z,w.heap.size = z:=⟨_,rfl⟩;rw [hg] at k0 eW ⊢;have K0:=Lib.hid k0;have HG:Hid (g = w.heap.size):=Lib.hid hg.symm;clear k0 eW hg;go_wp2_with (first | (refine Q0j rfl _ _ rfl Tryz.J6g Tryz.J4h rfl K0.out rfl ?_) | fail)
 refine (HLV.out _ HXW.out).mono ?_;rintro e w4 ⟨b,rfl,hlv,hx4⟩;have HX4:=Lib.hid (HXW.out.trans hx4);have HK4:=Lib.hid (K0.out.ext hx4);have HLV4:=Lib.hid hlv;obtain ⟨B,hB⟩:∃ z,w4.heap.size = z:=⟨_,rfl⟩;have HB:=Lib.hid hB;clear hlv hx4 hB K0 HLV;go_wp2_with fail
 go_loopw [5,12] (fun fv iv wr=>∃ k:Nat,k <= n /\ iv = .int .i64 k /\ Q0i wr B 3 (.int .i64) fv (X1t x V k) /\ Ext w4 wr) (fun _ iv _=>n - (intOf iv).toNat)
 case atStart=>exact ⟨0,Nat.zero_le _,rfl,Q0i.nil _ _ _ _,Ext.refl _⟩
 case round =>
  obtain ⟨k,hk,rfl,hown,hx⟩:=hrel;have HOWN:=Lib.hid hown;have HX:=Lib.hid hx;have HKR:=Lib.hid (HK4.out.ext hx)
  by_cases hlt:k < n
  . have hkI:(k:Int) < (n:Int):=by omega
    have HK:=Lib.hid hlt;have HWK:Hid (wrap64 ((k:Int) + 1) = (k:Int) + 1):=Lib.hid (by have:=HN8.out; unfold wrap64; omega)
    obtain ⟨L9,c9,h9,-,-,hcx⟩:=(H2.out.ext (HX4.out.trans hx)).nodes.opened;obtain ⟨bx,ox,hbx,-,-,-,d2,-⟩:=hcx k (by rw [HN.out]; exact hlt)
    rw [HN.out] at h9;injection h9 with k1 k2 k3;subst k1 k3;subst hbx;obtain ⟨L8,c8,h8,-,-,hcy⟩:=(HLV4.out.ext hx).opened;have hll2:(Z7u x V n).length = n:=by rw [X0m,HL.out]
    obtain ⟨by_,oy,hby,e0⟩:=hcy k (by rw [hll2]; exact hlt)
    injection h8 with j1 j2 j3;subst j1;injection hby with hby
    injection hby with hb1 hb2 hb3;subst hb1 hb2;rw [Z1v x V n (by rw [HL.out]; exact Nat.le_refl _) k,if_pos hlt,Nat.zero_add] at e0
    have hsn:=Y2h x V k;obtain ⟨q,hq⟩:∃ q,J4n x V k = q:=⟨_,rfl⟩;have hq0:=hq;unfold J4n at hq0;rw [hq] at hsn;obtain ⟨lv,hlv⟩:∃ z,ix V k / Q6m x.nodes k = z:=⟨_,rfl⟩;obtain ⟨li,hli⟩:∃ z,X2e x.nodes k = z:=⟨_,rfl⟩;rw [hlv] at e0 hq0;rw [hli] at d2 hq0;have c0:=HKR.out.cell 0;simp only [Go.Tw.gA,Go.Tw.gB] at c0;have hll:(X1t x V k).length <= 8:=Nat.le_trans (Y8u x V k) (by have:=HN8.out; omega)
    have HSN:=Lib.hid hsn;have HLL:=Lib.hid hll;have hle:B <= wr.heap.size:=by have:=HB.out; have:=hx.size; omega
    clear hcx hcy k2 hk hlv hli hq hsn j2 j3 hll2 hb3;cases q with
    | true =>
      have hgt:li < lv:=by simpa using hq0
      clear hq0;go_wp2_with (at_builtin; refine wpList_append_own _ rfl _ _ 44 rfl (B) 3 i0 (.int .i64 0) 1 8 Tryz.underlying44 hi hz0 hz1 hz2 rfl (by decide) _ _ _ rfl (World.ownsRow.alloc hown _) ⟨wr.heap.size,0,none⟩ 1 1 [.int .i64 k] rfl rfl ?_ ?_ ?_ ?_ ?_ ?_; exact Q4p _ _ _; (focus (simp [Value.oneCell'])); (focus (unfold maxLen; omega)); (focus omega); (focus (have:=hx.size; simp at this ⊢; omega)); intro v' w1 hown' hgrow _)
      have hx':Ext w4 w1:=Q3b hx hown (by have:=HB.out; omega) hgrow
      have HX':=Lib.hid hx';have HOW':Hid (Q0i w1 B 3 (.int .i64) v' (X1t x V (k + 1))):=Lib.hid (by rw [HSN.out,if_pos rfl]; exact Q0i.snoc hown')
      clear hx' hown' hgrow hown hx hle;go_wp2;go_roundw
      case rel=>exact ⟨k + 1,by have:=HK.out; omega,by (try rw [HWK.out]); go_num,HOW'.out,HX'.out⟩
      case measure=>have:=HK.out; (try rw [HWK.out]); simp [intOf]; omega
    | false =>
      have hgt:¬ li < lv:=by simpa using hq0
      have HOW':Hid (Q0i wr B 3 (.int .i64) u5 (X1t x V (k + 1))):=Lib.hid (by rw [HSN.out,if_neg (by simp)]; exact HOWN.out)
      clear hq0 hown hx hle;go_wp2;go_roundw
      case rel=>exact ⟨k + 1,by have:=HK.out; omega,by (try rw [HWK.out]); go_num,HOW'.out,HX.out⟩
      case measure=>have:=HK.out; (try rw [HWK.out]); simp [intOf]; omega
  . obtain rfl:k = n:=by omega
    have hkI:¬ (k:Int) < (k:Int):=by omega
    have HLE:Hid ((X1t x V k).length <= 17592186043904):=Lib.hid (Nat.le_trans (Y8u x V k) (by have:=HN8.out; omega))
    clear hown hx;go_wp2;go_ret;exact ⟨_,rfl,HOWN.out.ints HLE.out,HX4.out.trans HX.out⟩
end Go.Proofs
