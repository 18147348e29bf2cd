/- The law FaultMerged: for every input the call returns true, and each argument reads afterwards as before. The listed tables of math/bits and strconv are as the text lays them. -/
import Derived.Test.YtgopmebjbkdfgaaGreatDoorMz42
import Derived.Test.YtgopmebjbkdfgaaGreatDoorMz30
import Derived.Deep.DeepCutAuto
import Derived.Test.YtgopmebjbkdfgaaGreatDoorMz11
set_option maxRecDepth 1000000
set_option maxHeartbeats 64000000
set_option linter.unusedVariables false
set_option linter.unusedSimpArgs false
namespace Go.Proofs
open Go.RowKit Go.Tw Go.Flow
theorem J2q {t:Tree} (h:t.err = 0):Few t:=by
 have hv:=Valid.of h;have h1:=hv.size;have h2:=hv.ng';unfold Tree.size at h1;refine ⟨by omega,by omega,by omega,fun k hk=>?_,fun k hk=>?_⟩
 . have:=(hv.cause hk).2.2.1; omega
 . have:=(hv.Y9e hk).2.2.1; omega
theorem Tryz.Z4j (w:World):(sizeOf 9).run Tryz.prog w = .ok 1 w:=by kernel_rfl
theorem J1j {w:World} {M:Nat} {vb vc vg:Value} {t:Tree} {mc mg:Nat -> Value} (hb:Q1o w M 48 2 Q9x vb (Y2w t.basics t.basics.length)) (hc:Q1o w M 50 3 enc3 vc (Y3p t.causes mc t.causes.length)) (hg:Q1o w M 97 3 enc3 vg ((List.range t.gates.length).map (gF t mg)))
    (ht:∃ W v,IsTree W v t) (hs:t.size <= 5) (hm:∀ i,i < t.causes.length -> Q0f w (mc i) (Q0e t.causes i)) (hi:∀ i,i < t.gates.length -> Q0f w (mg i) (Q0j t.gates i)):Q3u w vb vc vg (X5g t):=by
 obtain ⟨W,v,a,b,c,rfl,h3⟩:=ht;unfold Tree.size at hs;refine ⟨?_,?_,?_⟩
 . refine Y8d hb (by rw [Q7x]; omega) fun i hi=>?_
   rw [Q7x] at hi;show Short ((X5g t).basics.getD i default).name;rw [X9k hi];show (X3t 98 i).size <= _;rw [X3z (by omega)]; decide
 . rw [J0f] at hc
   refine Y7e hc (by rw [X4q]; omega) (fun i hi=>?_) (fun i hi=>?_)
   . rw [X4q] at hi
     show Short ((X5g t).causes.getD i default).name;rw [X1j hi];show (X3t 99 i).size <= _;rw [X3z (by omega)]; decide
   . rw [X4q] at hi
     unfold Q0e;rw [X1j hi];exact hm i hi
 . exact X4y (t:=X5g t) hg h3.gates hi
theorem J3m (W0 WB:World) (t b:Tree) (A B G:Option Addr) (capa capb capg gT:Nat) (Ab Cb Gb:Option Addr) (cb ccb cgb gB nn:Nat) (hn:nn < 256) (he:t.err = 0) (hf:Few t) (hsz:t.size <= 5) (ht:Q3u WB (.slice A t.basics.length capa) (.slice B t.causes.length capb) (.slice G t.gates.length capg) t) (k0:Blk WB gT 26 #[.slice A t.basics.length capa,.slice B t.causes.length capb,.slice G t.gates.length capg]) (hx0:Ext W0 WB) (heb:b.err = 0) (hfb:Few b) (hsb:b.size <= 5) (hga:t.gates.length <= 8) (hgb:b.gates.length <= 8) (hT:Tab WB) (htb:Q3u WB (.slice Ab b.basics.length cb) (.slice Cb b.causes.length ccb) (.slice Gb b.gates.length cgb) b) (kb:Blk WB gB 26 #[.slice Ab b.basics.length cb,.slice Cb b.causes.length ccb,.slice Gb b.gates.length cgb]) (F:Array Value) (hF:F.size = 364) (f2:F[2]? = some (.int .u8 nn)) (f3:F[3]? = some (.pointer (some ⟨gT,0,none⟩))) (f4:F[4]? = some (.pointer (some ⟨gB,0,none⟩))) :
    (codeFrom Tryz.f4 3).wp Tryz.prog (bodyPost Tryz.prog Tryz.f4 (fun e w'=>e = .returned (.bool true) /\ Ext W0 w')) ⟨F,[]⟩ WB:=by
 obtain ⟨u,rfl⟩:=Z0s hF;replace f2:u 2 = _:=Option.some.inj f2;replace f3:u 3 = _:=Option.some.inj f3;replace f4:u 4 = _:=Option.some.inj f4;rw [f2,f3,f4];clear hF f2 f3 f4
 conv=>arg 2; whnf
 have HE:=Lib.hid he;have HF:=Lib.hid hf;have HSZ:=Lib.hid hsz;have HT:=Lib.hid ht;have K0:=Lib.hid k0;have HEB:=Lib.hid heb;have HFB:=Lib.hid hfb;have HSB:=Lib.hid hsb;have HGA:=Lib.hid hga;have HGB:=Lib.hid hgb;have HTAB:=Lib.hid hT;have HTB:=Lib.hid htb;have KB:=Lib.hid kb;have HX0:=Lib.hid hx0;have hsb5:b.basics.length + b.causes.length <= 5:=hsb;have HX:=Lib.hid (Ext.refl WB);have HBT:Hid (∃ W v,IsTree W v b):=Lib.hid ⟨WB,_,⟨_,_,_,rfl,htb⟩⟩;clear he hf hsz ht k0 heb hfb hsb hga hgb hT htb kb hx0;have kb_0:=KB.out.cell 0;have kb_1:=KB.out.cell 1;have kb_2:=KB.out.cell 2;simp only [Go.Tw.gA,Go.Tw.gB,Go.Tw.gC] at kb_0 kb_1 kb_2;go_wp2_with fail;clear kb_0 kb_1 kb_2;refine (Q8h _ _ (b) ⟨_,_,_,rfl,HTB.out⟩ HFB.out).mono ?_;rintro e w1 ⟨uu,rfl,hu,hx⟩;have hxx:Ext WB w1:=hx;replace HX:=Lib.hid (HX.out.trans hxx);replace HT:=Lib.hid (HT.out.ext hxx);replace K0:=Lib.hid (K0.out.ext hxx);replace HTB:=Lib.hid (HTB.out.ext hxx);replace KB:=Lib.hid (KB.out.ext hxx);replace HTAB:=Lib.hid (HTAB.out.ext hxx);have HU:=Lib.hid (hu);clear hu;clear hx hxx;obtain ⟨W1,rfl⟩:∃ X,X = w1:=⟨_,rfl⟩;replace HX0:=Lib.hid (HX0.out.trans HX.out);obtain ⟨M,hM⟩:∃ M,W1.heap.size = M:=⟨_,rfl⟩;have HM:=Lib.hid hM;clear HX hM;go_wp2_with fail;refine (Z1i _ _ b HU.out HFB.out.b HFB.out.c HFB.out.g).mono ?_;rintro e W2 ⟨vb,vc,vg,mc,mg,rfl,hR,hx⟩;have HVB:=Lib.hid hR.bas;have HVC:=Lib.hid hR.cau;have HVG:=Lib.hid hR.gat;have HMC:=Lib.hid hR.mem;have HMG:=Lib.hid hR.inp;have HXT:=Lib.hid hx;obtain ⟨Av,capv,hs1,_⟩:=hR.bas.shape;obtain ⟨Cv,ccv,hs2,_⟩:=hR.cau.shape;obtain ⟨Gv,cgv,hs3,_⟩:=hR.gat.shape;simp only [List.length_map,List.length_range] at hs2 hs3
 subst hs1 hs2 hs3;rw [HM.out] at HVB HVC HVG;clear hR hx HU;have KO:=Lib.hid (Blk.made W2 26 #[.slice Av b.basics.length capv,.slice Cv b.causes.length ccv,.slice Gv b.gates.length cgv]);have HXO:=Lib.hid (Ext.box W2 (.cells #[.slice Av b.basics.length capv,.slice Cv b.causes.length ccv,.slice Gv b.gates.length cgv] 26));go_upto_region 4 with fail;obtain ⟨gO,hgO⟩:∃ g,W2.heap.size = g:=⟨_,rfl⟩;rw [hgO] at KO ⊢;have hgOM:M <= gO:=by rw [<- hgO,<- HM.out]; exact HXT.out.size
 obtain ⟨W3,hww⟩:∃ X,W2.alloc (.cells #[.slice Av b.basics.length capv,.slice Cv b.causes.length ccv,.slice Gv b.gates.length cgv] 26) = X:=⟨_,rfl⟩;rw [hww] at HXO KO ⊢;have HX1:=Lib.hid (HXT.out.trans HXO.out);replace HVB:=Lib.hid (HVB.out.below HXO.out);replace HVC:=Lib.hid (HVC.out.below HXO.out);replace HVG:=Lib.hid (HVG.out.below HXO.out);have d0:=KO.out.cell 0;simp only [Go.Tw.gA,Go.Tw.gB,Go.Tw.gC] at d0;clear hww hgO HXT HXO;obtain ⟨vb,hvb⟩:∃ v,(.slice Av b.basics.length capv:Value) = v:=⟨_,rfl⟩;obtain ⟨vc,hvc⟩:∃ v,(.slice Cv b.causes.length ccv:Value) = v:=⟨_,rfl⟩;obtain ⟨vg,hvg⟩:∃ v,(.slice Gv b.gates.length cgv:Value) = v:=⟨_,rfl⟩;rw [hvb,hvc,hvg] at KO;rw [hvb] at HVB;rw [hvc] at HVC;rw [hvg] at HVG;have HCS:=Lib.hid hvc.symm;clear hvb hvc hvg;go_wp2;clear d0
 go_loopw [57] (fun i wr=>∃ (k:Nat),k <= b.basics.length /\ i = .int .i64 k /\ Q1o wr M 48 2 Q9x vb (Y2w b.basics k) /\ Blk wr gO 26 #[vb,vc,vg] /\ Q1o wr M 50 3 enc3 vc ((List.range b.causes.length).map (cF b mc)) /\ Q1o wr M 97 3 enc3 vg ((List.range b.gates.length).map (gF b mg)) /\ Ext W1 wr) (fun i _=>b.basics.length - (intOf i).toNat)
 case atStart=>exact ⟨0,Nat.zero_le _,rfl,by rw [Z5v]; exact HVB.out,KO.out,HVC.out,HVG.out,HX1.out⟩
 case round =>
  obtain ⟨k,hk,rfl,hown,hbo,hoc,hog,hxe⟩:=hrel;obtain ⟨w5,rfl⟩:∃ X,X = wr:=⟨_,rfl⟩;have HBO:=Lib.hid hbo;have HOC:=Lib.hid hoc;have HOG:=Lib.hid hog;have HXE:=Lib.hid hxe;have d0:=hbo.cell 0;simp only [Go.Tw.gA,Go.Tw.gB,Go.Tw.gC] at d0;clear hbo hoc hog hxe
  by_cases hlt:k < b.basics.length
  . skip
    obtain ⟨gb,cap',cur',hv,hb',hblk,hcc,hm,hs,htk⟩:=X1c hown (by rw [X0j]; omega)
    rw [X0j] at hv hcc htk;have HVV:=Lib.hid hv;rw [hv] at d0;have HPUT:Hid (∀ w6,Blk w6 gb 48 (cur'.setIfInBounds (k * 2 + 0) (.string (X3t 98 k))) -> Q1o w6 M 48 2 Q9x vb (Y2w b.basics (k + 1))):=by
     refine Lib.hid (fun w6 hw=>?_);have h:=Y3g (l:=(Y2w b.basics k)) (y:=⟨X3t 98 k,Q1d b.basics k⟩) (i:=k) (j:=0) Q7w hb' (by rw [X0j]; exact hcc) hm hs (by rw [X0j]; exact htk) (by rw [X0j]; exact hlt) (by decide) (by rw [J2z hlt]; rfl) hw
     rw [J0u,X0j,<- HVV.out] at h;exact h
    have hin:k * 2 + 0 < cur'.size:=by rw [hs]; omega
    have HBLK:=Lib.hid hblk;have hkI:(k:Int) < b.basics.length:=by omega
    have hsz1:(Q3h (k:Int)).size = 1:=by rw [Q6k (by omega)]; rfl
    have hc1:1 + (Q3h (k:Int)).size <= 9223372036854775807:=by omega
    have hc2:1 + (Q3h (k:Int)).size <= 9223372036854775801:=by omega
    have hdr:=(Ext.refl w5).drew;clear hown hblk hcc hm hs htk hv hsz1;go_wp2;refine Flow.Q3s [.p,.w,.p,.p,.w,.p,.p,.p,.p,.last] [0,1,2,3,4,5,6,7,8,9] [[],[0],[],[],[3],[3,4],[3,4,5],[0,1,2,3,4,5,6],[0,1,2,3,4,5,6,7],[0,1,2,3,4,5,6,7,8]] [9]
     [.c 0 (.pointer (some ⟨gO,0,none⟩)),.c 1 (.slice (some ⟨gb,0,none⟩) b.basics.length cap'),.c 2 (.int .i64 k),.c 3 (.int .i64 k),.c 4 (.string (Q3h (k:Int))),.c 5 (.string (⟨#[98]⟩ ++ Q3h (k:Int))),.c 6 (.string (⟨#[98]⟩ ++ Q3h (k:Int) ++ ⟨#[95,111,116,104,101,114]⟩)),.c 7 (.pointer (some ⟨gb,k * 2,none⟩)),.c 8 (.pointer (some ⟨gb,k * 2,none⟩)),.none]
     [fun v w1 w2=>Blk w2 gb 48 (cur'.setIfInBounds (k * 2 + 0) (.string (X3t 98 k))) /\ (∀ n,n <= gb -> Below n w1 w2) /\ ∀ k,k ≠ gb -> w2.heap[k]? = w1.heap[k]?] (by kernel_rfl) rfl (by kernel_rfl) ⟨?g0,?g1,?g2,?g3,?g4,?g5,?g6,?g7,?g8,?g9,trivial⟩ ?post
    case g0 | g2 | g3=>
     intro v w1 hx;intro bb hbb;subst hbb;refine ⟨_,fun w=>?_,rfl⟩;go_simp
    case g1=>
     intro v w1 hx;(repeat intro (zq:v _ = _));intro bb hbb;subst hbb;have n0:w1.cell? ⟨gO,0,none⟩ = some (.slice (some ⟨gb,0,none⟩) b.basics.length cap'):=by rw [(HBO.out.ext (hdr.trans hx)).cell 0,<- HVV.out]; rfl
     intro K hK;go_simp;exact hK _ _ (Ext.refl _) rfl
    case g4=>
     intro v w1 hx;(repeat intro (zq:v _ = _));intro bb hbb;subst hbb;intro K hK;go_simp;refine Q0d (Z1h w1 (k:Int) (by omega) (by omega)) ?_
     rintro e w2 ⟨rfl,hx2⟩;exact ⟨_,rfl,hK _ _ hx2 rfl⟩
    case g5 | g6 | g7 | g8=>
     intro v w1 hx;(repeat intro (zq:v _ = _));intro bb hbb;subst hbb;refine ⟨_,fun w=>?_,rfl⟩;go_simp
    case g9=>
     intro v w1 hx;(repeat intro (zq:v _ = _));intro wl hT;obtain rfl:wl = w1:=hT;intro bb hbb;intro K hK;have o1:bb.eval (.tmp 68) = .pointer (some ⟨gb,k * 2 + 0,none⟩):=by rw [hbb]; dsimp only; (try simp (discharger:=decide) only [eval_put_ne]); rw [Q0a (by simp only [size_put]; exact (by decide:68 < 364))]; assumption
     have o2:bb.eval (.tmp 66) = .string (X3t 98 k):=by rw [hbb]; dsimp only; (try simp (discharger:=decide) only [eval_put_ne]); rw [Q0a (by simp only [size_put]; exact (by decide:66 < 364))]; assumption
     have hbx:=HBLK.out.ext (hdr.trans hx);refine Q3a (.tmp 68) (.tmp 66) rfl Tryz.Z4j o1 o2 rfl rfl hbx hin (fun vv=>hK _ _ ⟨hbx.set _ _,fun n hn=>(Below.refl n _).setCell (p:=⟨gb,k * 2 + 0,none⟩) hn _,fun k' hk'=>Below.heap_setCell _ _ _ _ hk'⟩)
    case post =>
     intro v w1 hx;(iterate 9 intro (zq:v _ = _));intro w2 hE;simp only [Flow.acts,Act.put];go_simp;obtain ⟨hb6,hlow,hot6⟩:=hE;have hxx:=hdr.trans hx;have hks:=Keep.store (HBLK.out.ext hxx) hot6;have HBS:=Lib.hid (HPUT.out _ hb6);have HE6:Hid (Ext W1 w2):=Lib.hid (Below.trans (HXE.out.trans hxx) (hlow W1.heap.size (by rw [HM.out]; exact hb')))
     replace HBO:=Lib.hid (hks _ _ _ (by decide) (HBO.out.ext hxx))
     replace HOC:=Lib.hid (Q1k (HOC.out.below hxx) (by decide) hks)
     replace HOG:=Lib.hid (Q1k (HOG.out.below hxx) (by decide) hks)
     clear hb6 hlow hot6 hxx hx hdr d0 hks;(repeat clear zq);go_wp2;go_roundw
     case rel=>exact ⟨k + 1,by omega,by go_num,HBS.out,HBO.out,HOC.out,HOG.out,HE6.out⟩
     case measure=>simp [intOf]; omega
  . skip
    obtain rfl:k = b.basics.length:=by omega
    clear hk hlt d0;have HVB2:=Lib.hid hown;clear hown;replace KO:=Lib.hid HBO.out;replace HVG:=Lib.hid HOG.out;have HVO:=Lib.hid HOC.out;replace HX1:=Lib.hid HXE.out;have d1:=KO.out.cell 1;simp only [Go.Tw.gA,Go.Tw.gB,Go.Tw.gC] at d1;rw [HCS.out] at d1;clear HBO HOG HOC HXE HVB HVC;go_wp2;clear d1
    go_loopw [73] (fun i wr=>∃ (k:Nat),k <= b.causes.length /\ i = .int .i64 k /\ Q1o wr M 50 3 enc3 vc (Y3p b.causes mc k) /\ Blk wr gO 26 #[vb,vc,vg] /\ Q1o wr M 48 2 Q9x vb (Y2w b.basics b.basics.length) /\ Q1o wr M 97 3 enc3 vg ((List.range b.gates.length).map (gF b mg)) /\ Ext W1 wr) (fun i _=>b.causes.length - (intOf i).toNat)
    case atStart=>exact ⟨0,Nat.zero_le _,rfl,by rw [Z7g]; exact HVO.out,KO.out,HVB2.out,HVG.out,HX1.out⟩
    case round =>
     obtain ⟨k,hk,rfl,hown,hbo,hoc,hog,hxe⟩:=hrel;obtain ⟨w5,rfl⟩:∃ X,X = wr:=⟨_,rfl⟩;have HBO:=Lib.hid hbo;have HOC:=Lib.hid hoc;have HOG:=Lib.hid hog;have HXE:=Lib.hid hxe;have d1:=hbo.cell 1;simp only [Go.Tw.gA,Go.Tw.gB,Go.Tw.gC] at d1;clear hbo hoc hog hxe
     by_cases hlt:k < b.causes.length
     . skip
       obtain ⟨gb,cap',cur',hv,hb',hblk,hcc,hm,hs,htk⟩:=X1c hown (by rw [X0d]; omega)
       rw [X0d] at hv hcc htk;have HVV:=Lib.hid hv;rw [hv] at d1;have HPUT:Hid (∀ w6,Blk w6 gb 50 (cur'.setIfInBounds (k * 3 + 0) (.string (X3t 99 k))) -> Q1o w6 M 50 3 enc3 vc (Y3p b.causes mc (k + 1))):=by
        refine Lib.hid (fun w6 hw=>?_);have h:=Y3g (l:=(Y3p b.causes mc k)) (y:=(X3t 99 k,Q0z b.causes k,mc k)) (i:=k) (j:=0) Q0s hb' (by rw [X0d]; exact hcc) hm hs (by rw [X0d]; exact htk) (by rw [X0d]; exact hlt) (by decide) (by rw [J4c hlt]; rfl) hw
        rw [Z8p,X0d,<- HVV.out] at h;exact h
       have hin:k * 3 + 0 < cur'.size:=by rw [hs]; omega
       have HBLK:=Lib.hid hblk;have hkI:(k:Int) < b.causes.length:=by omega
       have hsz1:(Q3h (k:Int)).size = 1:=by rw [Q6k (by omega)]; rfl
       have hc1:1 + (Q3h (k:Int)).size <= 9223372036854775807:=by omega
       have hc2:1 + (Q3h (k:Int)).size <= 9223372036854775801:=by omega
       have hdr:=(Ext.refl w5).drew;clear hown hblk hcc hm hs htk hv hsz1;go_wp2;refine Flow.Q3s [.p,.w,.p,.p,.w,.p,.p,.p,.p,.last] [0,1,2,3,4,5,6,7,8,9] [[],[0],[],[],[3],[3,4],[3,4,5],[0,1,2,3,4,5,6],[0,1,2,3,4,5,6,7],[0,1,2,3,4,5,6,7,8]] [9]
        [.c 0 (.pointer (some ⟨gO,1,none⟩)),.c 1 (.slice (some ⟨gb,0,none⟩) b.causes.length cap'),.c 2 (.int .i64 k),.c 3 (.int .i64 k),.c 4 (.string (Q3h (k:Int))),.c 5 (.string (⟨#[99]⟩ ++ Q3h (k:Int))),.c 6 (.string (⟨#[99]⟩ ++ Q3h (k:Int) ++ ⟨#[95,111,116,104,101,114]⟩)),.c 7 (.pointer (some ⟨gb,k * 3,none⟩)),.c 8 (.pointer (some ⟨gb,k * 3,none⟩)),.none]
        [fun v w1 w2=>Blk w2 gb 50 (cur'.setIfInBounds (k * 3 + 0) (.string (X3t 99 k))) /\ (∀ n,n <= gb -> Below n w1 w2) /\ ∀ k,k ≠ gb -> w2.heap[k]? = w1.heap[k]?] (by kernel_rfl) rfl (by kernel_rfl) ⟨?g0,?g1,?g2,?g3,?g4,?g5,?g6,?g7,?g8,?g9,trivial⟩ ?post
       case g0 | g2 | g3=>
        intro v w1 hx;intro bb hbb;subst hbb;refine ⟨_,fun w=>?_,rfl⟩;go_simp
       case g1=>
        intro v w1 hx;(repeat intro (zq:v _ = _));intro bb hbb;subst hbb;have n0:w1.cell? ⟨gO,1,none⟩ = some (.slice (some ⟨gb,0,none⟩) b.causes.length cap'):=by rw [(HBO.out.ext (hdr.trans hx)).cell 1,<- HVV.out]; rfl
        intro K hK;go_simp;exact hK _ _ (Ext.refl _) rfl
       case g4=>
        intro v w1 hx;(repeat intro (zq:v _ = _));intro bb hbb;subst hbb;intro K hK;go_simp;refine Q0d (Z1h w1 (k:Int) (by omega) (by omega)) ?_
        rintro e w2 ⟨rfl,hx2⟩;exact ⟨_,rfl,hK _ _ hx2 rfl⟩
       case g5 | g6 | g7 | g8=>
        intro v w1 hx;(repeat intro (zq:v _ = _));intro bb hbb;subst hbb;refine ⟨_,fun w=>?_,rfl⟩;go_simp
       case g9=>
        intro v w1 hx;(repeat intro (zq:v _ = _));intro wl hT;obtain rfl:wl = w1:=hT;intro bb hbb;intro K hK;have o1:bb.eval (.tmp 84) = .pointer (some ⟨gb,k * 3 + 0,none⟩):=by rw [hbb]; dsimp only; (try simp (discharger:=decide) only [eval_put_ne]); rw [Q0a (by simp only [size_put]; exact (by decide:84 < 364))]; assumption
        have o2:bb.eval (.tmp 82) = .string (X3t 99 k):=by rw [hbb]; dsimp only; (try simp (discharger:=decide) only [eval_put_ne]); rw [Q0a (by simp only [size_put]; exact (by decide:82 < 364))]; assumption
        have hbx:=HBLK.out.ext (hdr.trans hx);refine Q3a (.tmp 84) (.tmp 82) rfl Tryz.Z4j o1 o2 rfl rfl hbx hin (fun vv=>hK _ _ ⟨hbx.set _ _,fun n hn=>(Below.refl n _).setCell (p:=⟨gb,k * 3 + 0,none⟩) hn _,fun k' hk'=>Below.heap_setCell _ _ _ _ hk'⟩)
       case post =>
        intro v w1 hx;(iterate 9 intro (zq:v _ = _));intro w2 hE;simp only [Flow.acts,Act.put];go_simp;obtain ⟨hb6,hlow,hot6⟩:=hE;have hxx:=hdr.trans hx;have hks:=Keep.store (HBLK.out.ext hxx) hot6;have HBS:=Lib.hid (HPUT.out _ hb6);have HE6:Hid (Ext W1 w2):=Lib.hid (Below.trans (HXE.out.trans hxx) (hlow W1.heap.size (by rw [HM.out]; exact hb')))
        replace HBO:=Lib.hid (hks _ _ _ (by decide) (HBO.out.ext hxx))
        replace HOC:=Lib.hid (Q1k (HOC.out.below hxx) (by decide) hks)
        replace HOG:=Lib.hid (Q1k (HOG.out.below hxx) (by decide) hks)
        clear hb6 hlow hot6 hxx hx hdr d1 hks;(repeat clear zq);go_wp2;go_roundw
        case rel=>exact ⟨k + 1,by omega,by go_num,HBS.out,HBO.out,HOC.out,HOG.out,HE6.out⟩
        case measure=>simp [intOf]; omega
     . skip
       obtain rfl:k = b.causes.length:=by omega
       clear hk hlt d1;have HVC2:=Lib.hid hown;clear hown;have HO3:Hid (Q3u w5 vb vc vg (X5g b)):=by
        refine Lib.hid (J1j (M:=M) (t:=b) ?_ ?_ ?_ HBT.out HSB.out (fun i hi=>(HMC.out i hi).ext HXE.out) (fun i hi=>(HMG.out i hi).ext HXE.out))
        . exact HOC.out
        . exact HVC2.out
        . exact HOG.out
       obtain ⟨A7,capA7,hs1,_⟩:=HO3.out.basics.opened;obtain ⟨B7,capB7,hs2,_⟩:=HO3.out.causes.opened;obtain ⟨G7,capG7,hs3,_⟩:=HO3.out.gates.opened;have HKF:=Lib.hid HBO.out;rw [hs1,hs2,hs3] at HKF HO3;clear hs1 hs2 hs3;go_upto_if 74 with fail
       iterate 6 go_step
       exact J3g W0 w5 t (X5g b) _ _ _ _ _ _ gT gO _ _ _ nn _ _ _ hn HE.out HF.out HSZ.out (HT.out.ext HXE.out) (K0.out.ext HXE.out) (HX0.out.trans HXE.out) (Z5x HEB.out HSB.out) (J2q (Z5x HEB.out HSB.out)) (by rw [Y3t]; exact HSB.out) HGA.out HGB.out (fun ha=>Z5s ha HSB.out) HKF.out HO3.out (HTAB.out.ext HXE.out) _ rfl rfl rfl rfl
end Go.Proofs
namespace Go.Proofs
open Go.RowKit Go.Tw Go.Flow
attribute [local go_sem ↓] Q8m Q7e X0e
theorem X8c (w:World) (va vb:Value) (a b:Tree) (nn:Nat) (hn:nn < 256) (ha:IsTree w va a) (hb:IsTree w vb b) (hT:Tab w) :
    Calls Tryz.prog 4 #[va,vb,.int .u8 (nn:Int)] w fun e w'=>e = .returned (.bool true) /\ Ext w w':=by
 have HB0:=Lib.hid hb;obtain ⟨a1,a2,a3,rfl,h3⟩:=ha;obtain ⟨b1,b2,b3,rfl,h4⟩:=hb;obtain ⟨Aa,ca,rfl,_⟩:=h3.basics.opened;obtain ⟨Ca,cca,rfl,_⟩:=h3.causes.opened;obtain ⟨Ga,cga,rfl,_⟩:=h3.gates.opened;obtain ⟨Ab,cb,rfl,_⟩:=h4.basics.opened;obtain ⟨Cb,ccb,rfl,_⟩:=h4.causes.opened;obtain ⟨Gb,cgb,rfl,_⟩:=h4.gates.opened;have HTA0:=Lib.hid h3;have HTB0:=Lib.hid h4;have HTAB:=Lib.hid hT;clear h3 h4 hT;go_enter Tryz.func4,Tryz.ntmps4;go_wp2_with fail;change Calls _ _ _ ((w.alloc (.cells #[.slice Aa a.basics.length ca,.slice Ca a.causes.length cca,.slice Ga a.gates.length cga] 26)).alloc (.cells #[.slice Ab b.basics.length cb,.slice Cb b.causes.length ccb,.slice Gb b.gates.length cgb] 26)) _;obtain ⟨W,hWW,k0,k1,HXW,eW⟩:=Q7n w 26 #[.slice Aa a.basics.length ca,.slice Ca a.causes.length cca,.slice Ga a.gates.length cga] 26 #[.slice Ab b.basics.length cb,.slice Cb b.causes.length ccb,.slice Gb b.gates.length cgb];rw [hWW];clear hWW;obtain ⟨WB,hWB⟩:∃ X,W = X:=⟨_,rfl⟩;rw [hWB] at HXW eW k0 k1 ⊢;clear hWB;have HTA:=Lib.hid (HTA0.out.ext HXW.out);have HTB:=Lib.hid (HTB0.out.ext HXW.out);have KA:=Lib.hid k0;have KB:=Lib.hid k1;replace HTAB:=Lib.hid (HTAB.out.ext HXW.out);have HW0:=Lib.hid HXW.out;have HX:=Lib.hid (Ext.refl WB);clear k0 k1 HXW
 skip
 refine (X9c _ HTAB.out).mono ?_;rintro e w1 ⟨rfl,hx⟩;have hxx:Ext WB w1:=hx;replace HX:=Lib.hid (HX.out.trans hxx);replace HTAB:=Lib.hid (HTAB.out.ext hxx);replace KA:=Lib.hid (KA.out.ext hxx);replace KB:=Lib.hid (KB.out.ext hxx);replace HTA:=Lib.hid (HTA.out.ext hxx);replace HTB:=Lib.hid (HTB.out.ext hxx);clear hx hxx;have ka_0:=KA.out.cell 0;have ka_1:=KA.out.cell 1;have ka_2:=KA.out.cell 2;simp only [Go.Tw.gA,Go.Tw.gB,Go.Tw.gC] at ka_0 ka_1 ka_2;go_wp2_with fail;clear ka_0 ka_1 ka_2;refine (Y1t _ _ a 5 ⟨_,_,_,rfl,HTA.out⟩ (by omega)).mono ?_
 rintro e w2 ⟨q,rfl,hq,hx,_⟩;replace HX:=Lib.hid (HX.out.trans hx);replace HTAB:=Lib.hid (HTAB.out.ext hx);replace KA:=Lib.hid (KA.out.ext hx);replace KB:=Lib.hid (KB.out.ext hx);replace HTA:=Lib.hid (HTA.out.ext hx);replace HTB:=Lib.hid (HTB.out.ext hx);clear hx;cases q with
 | false =>
   clear hq;go_wp2_with fail;refine (X9c _ HTAB.out).mono ?_;rintro e w3 ⟨rfl,hx⟩;have hxx:Ext w2 w3:=hx;replace HX:=Lib.hid (HX.out.trans hxx);replace HTAB:=Lib.hid (HTAB.out.ext hxx);replace KA:=Lib.hid (KA.out.ext hxx);replace KB:=Lib.hid (KB.out.ext hxx);replace HTA:=Lib.hid (HTA.out.ext hxx);replace HTB:=Lib.hid (HTB.out.ext hxx);clear hx hxx;go_wp2;go_ret;exact ⟨rfl,HW0.out.trans HX.out⟩
 | true =>
   have HEA:=Lib.hid (hq rfl).1;have HFA:=Lib.hid ((hq rfl).2.1.few (by omega))
   have HSZA:=Lib.hid (hq rfl).2.2;have hg8:=(hq rfl).2.1.g8;have hng:=(Valid.of HEA.out).ng';have HGA:Hid (a.gates.length <= 8):=Lib.hid (by omega)
   clear hq hg8 hng;have kb_0:=KB.out.cell 0;have kb_1:=KB.out.cell 1;have kb_2:=KB.out.cell 2;simp only [Go.Tw.gA,Go.Tw.gB,Go.Tw.gC] at kb_0 kb_1 kb_2;go_wp2_with fail;clear kb_0 kb_1 kb_2;refine (Y1t _ _ b 5 ⟨_,_,_,rfl,HTB.out⟩ (by omega)).mono ?_
   rintro e w3 ⟨q,rfl,hq,hx,_⟩;replace HX:=Lib.hid (HX.out.trans hx);replace HTAB:=Lib.hid (HTAB.out.ext hx);replace KA:=Lib.hid (KA.out.ext hx);replace KB:=Lib.hid (KB.out.ext hx);replace HTA:=Lib.hid (HTA.out.ext hx);replace HTB:=Lib.hid (HTB.out.ext hx);clear hx;cases q with
   | false =>
     clear hq;go_wp2_with fail;refine (X9c _ HTAB.out).mono ?_;rintro e w4 ⟨rfl,hx⟩;have hxx:Ext w3 w4:=hx;replace HX:=Lib.hid (HX.out.trans hxx);replace HTAB:=Lib.hid (HTAB.out.ext hxx);replace KA:=Lib.hid (KA.out.ext hxx);replace KB:=Lib.hid (KB.out.ext hxx);replace HTA:=Lib.hid (HTA.out.ext hxx);replace HTB:=Lib.hid (HTB.out.ext hxx);clear hx hxx;go_wp2;go_ret;exact ⟨rfl,HW0.out.trans HX.out⟩
   | true =>
     have HEB:=Lib.hid (hq rfl).1;have HFB:=Lib.hid ((hq rfl).2.1.few (by omega))
     have HSZB:=Lib.hid (hq rfl).2.2;have hg8:=(hq rfl).2.1.g8;have hng:=(Valid.of HEB.out).ng';have HGB:Hid (b.gates.length <= 8):=Lib.hid (by omega)
     clear hq hg8 hng;go_upto_if 49 with fail
     go_step
     go_step
     go_step
     go_step
     exact J3m w w3 a b _ _ _ _ _ _ _ _ _ _ _ _ _ _ nn hn HEA.out HFA.out HSZA.out HTA.out KA.out (HW0.out.trans HX.out) HEB.out HFB.out HSZB.out HGA.out HGB.out HTAB.out HTB.out KB.out _ rfl rfl rfl rfl
end Go.Proofs
namespace Go.Proofs.YtgopmebjbkdfgaaGreatDoor
open Go.ChangeShapes Go.WideShapes Go.ChangeAt Go.RowKit Go.Tw
theorem X4g (os:Os) (started:os.Started) (H:Type) (enc:TypeId × Value -> H) :
    ReturnsInHanded {} Tryz.checked os 4 .any (fun w args=>(Rows.faultMergedSpec.pre enc Tryz.prog Tryz.f4 Rows.faultMergedRow.domain false w args /\ laidMetH Tryz.prog Z3l w) /\ sizedMet enc Tryz.prog Tryz.f4 (OpenSpec.ofChange Rows.faultMergedSpec) false w args)
     (Rows.faultMergedSpec.post enc Tryz.prog Tryz.f4 false true false false):=by
 refine returnsInHanded_of_change_and (C:=Tryz.checked) (X:=fun w _=>laidMetH Tryz.prog Z3l w) (fun _ _ _ hh h=>h.of_heap hh) own started (by kernel_rfl) Tryz.func4
  (ChangeSpec.witness_shaped (enc:=enc) (C:=Tryz.checked) (os:=os) (X:=fun w _=>laidMetH Tryz.prog Z3l w) false (World.laidAll Tryz.prog os Z3l) #[.agg #[.slice none 0 0,.slice none 0 0,.slice none 0 0],.agg #[.slice none 0 0,.slice none 0 0,.slice none 0 0],.int .u8 0] 8 (World.laidAll_os _ _ _)
   (World.shaped_of_ZipB (by kernel_rfl) (by kernel_rfl)) (by kernel_rfl) (by kernel_rfl) (by kernel_rfl)
   (by rw [MakeChecks.laidMetH_plain _ _ _ (by kernel_rfl)]; exact laidMet_laidAll _ (by kernel_rfl) (by kernel_rfl))) ?_
 intro W base args ds gs before hval0 hW hc hsz0 hL _;have hval:∀ (j:Nat) t v,Tryz.f4.params[j]? = some t -> args[j]? = some v -> Value.okWide Tryz.prog W .any base t v:=hval0;have hsz:(DataW.weightsEach Tryz.prog (Tryz.f4.params.toList ++ Rows.faultMergedSpec.plain.varTypes Tryz.prog) (ds ++ gs)).all (· <= reachBytes) = true:=hsz0;have hW':=hW;obtain ⟨p,q,hA0,hV,rfl,hfz,hnd⟩:=hW;have hA:DataW.TrodAll enc Tryz.prog W 0 (fun _=>true) true Tryz.f4.params.toList args.toList ds p:=hA0;rw [Tryz.params4] at hA hval hsz;obtain ⟨v0,vs0,d0,ds0,p0,q0,hargs,rfl,rfl,h0,r0⟩:=trodAll_cons hA;obtain ⟨v1,vs1,d1,ds1,p1,q1,rfl,rfl,rfl,h1,r1⟩:=trodAll_cons r0;obtain ⟨v2,vs2,d2,ds2,p2,q2,rfl,rfl,rfl,h2,r2⟩:=trodAll_cons r1;obtain ⟨rfl,rfl,rfl⟩:=trodAll_nil r2;obtain rfl:args = #[v0,v1,v2]:=by cases args; simp_all
 obtain ⟨rfl,rfl⟩:=trodVars_none hV;have hfit:∀ x ∈ DataW.weightsEach Tryz.prog [26,26,5] [d0,d1,d2],x <= 140737488351232:=fun x hx=>by
  have:=List.all_eq_true.1 (show (DataW.weightsEach Tryz.prog [26,26,5] [d0,d1,d2]).all (· <= reachBytes) = true from hsz) x hx
  exact Nat.le_trans (of_decide_eq_true this) (by decide)
 obtain ⟨f0,g0⟩:=Q3z hfit;obtain ⟨f1,g1⟩:=Q3z g0;obtain ⟨f2,g2⟩:=Q3z g1;have k0:=h0;have lt0:∀ x ∈ p0,x.block < W.heap.size:=by obtain ⟨m,hm⟩:=k0; exact DataW.trod_lt m _ _ _ hm
 obtain ⟨t0,HI0⟩:=X5t (hval 0 26 v0 rfl rfl) h0 f0;have k1:=h1;have lt1:∀ x ∈ p1,x.block < W.heap.size:=by obtain ⟨m,hm⟩:=k1; exact DataW.trod_lt m _ _ _ hm
 obtain ⟨t1,HI1⟩:=X5t (hval 1 26 v1 rfl rfl) h1 f1;have k2:=h2;have lt2:∀ x ∈ p2,x.block < W.heap.size:=by obtain ⟨m,hm⟩:=k2; exact DataW.trod_lt m _ _ _ hm
 obtain ⟨z2,rfl,rfl,rfl,wz2⟩:=open_int Tryz.underlying5 (hval 2 5 v2 rfl rfl) h2;obtain ⟨nu2,hu2,rfl⟩:=J4n wz2;clear hA0 hval0 hsz0;refine (X8c _ _ _ _ _ _ hu2 HI0 HI1 (Y7y hL)).mono fun e W' ⟨he,bel⟩=>?_;subst he;exact ⟨_,rfl,_,_,_,[],_,[],hW',trodAll_mk1 (shut_bool Tryz.underlying4 _),(trodAll_cons_mk (Below.trod laidOut (by kernel_rfl) (of_decide_eq_true (by kernel_rfl)) k0 bel lt0) (trodAll_cons_mk (Below.trod laidOut (by kernel_rfl) (of_decide_eq_true (by kernel_rfl)) k1 bel lt1) (trodAll_cons_mk (shut_int Tryz.underlying5 wz2) trodAll_mk0))),rfl,bel.frame _,fun h=>by cases h⟩
theorem X5f:Rows.FaultMergedSaid :=
 OpenClaim.holds_of_wide 4 Tryz.f4 rfl rfl rfl rfl rfl rfl rfl ⟨rfl,rfl,rfl,rfl,rfl⟩ rfl rfl rfl rfl rfl (by kernel_rfl) Tryz.func4 (by kernel_rfl)
  (of_decide_eq_true (by kernel_rfl)) (by unfold Func.isWrapper; first | (rw [if_pos (by decide +kernel)]; kernel_rfl) | (rw [if_neg (by decide +kernel)]; exact ⟨rfl,rfl⟩))
  (fun os started H enc _=>X4g os started H enc)
theorem faultMerged_card:Rows.FaultMergedCardSaid :=
 Claim7.holds_tied_plain_at .later [] [.data,.data,.data] true _ false X5f (fun _ h=>by cases h) (by kernel_rfl) (fun _ h=>by cases h) faultMerged_row_tie rfl ⟨rfl,rfl⟩ (by kernel_rfl) rfl
  (fun f fn hf hfn=>by
   obtain rfl:f = 4:=Option.some.inj ((show Tryz.prog.funcNamed Rows.faultMergedRow.func = some 4 by kernel_rfl).symm.trans hf) |>.symm
   obtain rfl:fn = Tryz.f4:=(Option.some.inj (Tryz.func4.symm.trans hfn)).symm;exact ⟨by kernel_rfl,fun j t ht=>by
    rw [Tryz.params4] at ht;have hm:t ∈ [26,26,5]:=by simpa using Array.mem_of_getElem? ht
    have hall:([26,26,5].all fun u=>!Tryz.prog.wantsStandIn u) = true:=by kernel_rfl
    exact (show Tryz.prog.wantsStandIn t = false by simpa using List.all_eq_true.1 hall t hm)⟩)
  (by kernel_rfl)
#print axioms faultMerged_card
end Go.Proofs.YtgopmebjbkdfgaaGreatDoor
