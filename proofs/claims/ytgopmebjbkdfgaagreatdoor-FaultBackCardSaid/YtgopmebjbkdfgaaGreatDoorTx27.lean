/- Contract of the reference: CheckTree. Contract of the reference: Short (what it lets through). -/
import Derived.Test.YtgopmebjbkdfgaaGreatDoorTx26
import Derived.Test.YtgopmebjbkdfgaaGreatDoorTx14
import Derived.Test.YtgopmebjbkdfgaaGreatDoorTx05
import Derived.Test.YtgopmebjbkdfgaaGreatDoorTx10
import Derived.Test.YtgopmebjbkdfgaaGreatDoorTx25
set_option maxRecDepth 1000000
set_option maxHeartbeats 64000000
set_option linter.unusedVariables false
set_option linter.unusedSimpArgs false
set_option linter.constructorNameAsVariable false
namespace Go.Proofs
open Go.RowKit Go.Tw Go.Flow
theorem Tryz.Q2s (w:World):(isAgg 26).run Tryz.prog w = .ok true w:=by kernel_rfl
theorem Tryz.Q0x (w:World):(sizeOf 26).run Tryz.prog w = .ok 3 w:=by kernel_rfl
theorem Y3n (t:Tree) (k:Nat):t.Q1f k = if Q0g [Q3f (t.nameAt k),Q0k (t.Q1g k) 0 16] ≠ 0 then Q0g [Q3f (t.nameAt k),Q0k (t.Q1g k) 0 16] else if t.Q8r k then 9 else if k < t.basics.length then 0 else Q2r (Q0f t.causes (k - t.basics.length)) t.basics.length:=by
 unfold Tree.Q1f;rw [show [Q3f (t.nameAt k),Q0k (t.Q1g k) 0 16,if t.Q8r k then 9 else 0,if k < t.basics.length then 0 else Q2r (Q0f t.causes (k - t.basics.length)) t.basics.length] = [Q3f (t.nameAt k),Q0k (t.Q1g k) 0 16] ++ [if t.Q8r k then 9 else 0,if k < t.basics.length then 0 else Q2r (Q0f t.causes (k - t.basics.length)) t.basics.length] from rfl,Q9e]
 generalize Q0g [Q3f (t.nameAt k),Q0k (t.Q1g k) 0 16] = F
 by_cases h:F = 0
 . rw [if_pos h,h,if_neg (show ¬ ((0:Int) ≠ 0) by simp)]
   simp only [Q0g];cases t.Q8r k with
   | true=>simp
   | false =>
     simp;intro h1 h2; exact (h1 h2).symm
 . rw [if_neg h,if_pos h]
theorem Y7j {w:World} {a b c:Value} {t:Tree} (h:Q5t w a b c t) {k:Nat} (hk:k < t.size):Short (t.nameAt k):=by
 unfold Tree.size at hk;unfold Tree.nameAt;obtain ⟨A,cap,_,hl,hcap,hc⟩:=h.basics.opened;obtain ⟨A',cap',_,hl',hcap',hc'⟩:=h.causes.opened
 split
 . rename_i h1
   obtain ⟨_,_,_,_,_,_,h2⟩:=hc k h1;exact h2
 . rename_i h1
   obtain ⟨_,_,_,_,_,_,_,_,_,h2⟩:=hc' (k - t.basics.length) (by omega)
   exact h2
theorem Z2q (t:Tree) (m:Nat) (x:ByteArray):((List.range (m + 1)).any fun i=>t.nameAt i == x) = (((List.range m).any fun i=>t.nameAt i == x) || t.nameAt m == x):=by
 rw [List.range_succ,List.any_append]; simp
def Y3l (t:Tree) (k m:Nat):Bool:=(List.range m).any fun i=>t.nameAt i == t.nameAt k
theorem Y0t (t:Tree) (k m:Nat):Y3l t k (m + 1) = (Y3l t k m || t.nameAt m == t.nameAt k):=Z2q t m _
theorem Y4u {t:Tree} {k m:Nat} (hm:m < k) (h:(t.nameAt m == t.nameAt k) = true):t.Q8r k = true:=by
 unfold Tree.Q8r;rw [List.any_eq_true];exact ⟨m,List.mem_range.2 hm,h⟩
theorem Q5y (w:World) (v:Value) (t:Tree) (ht:IsTree w v t) :
    Calls Tryz.prog 12 #[v] w fun e w'=>e = .returned (.int .i64 t.err) /\ Ext w w':=by
 obtain ⟨a,b,c,rfl,h3⟩:=ht;obtain ⟨A,capa,rfl,hl1,hcap1,_⟩:=h3.basics.opened;obtain ⟨B,capb,rfl,hl2,hcap2,_⟩:=h3.causes.opened;obtain ⟨G,capg,rfl,hl3,hcap3,_⟩:=h3.gates.opened;have HT0:=Lib.hid h3;clear h3
 by_cases h1:t.basics.length = 0
 . have HR:Hid (t.err = 12):=Lib.hid (by unfold Tree.err; rw [if_pos (.inl h1)])
   have h1':((t.basics.length:Int) == 0) = true:=by rw [beq_iff_eq]; omega
   clear h1;go_enter Tryz.func12,Tryz.ntmps12;go_wp2;go_ret;exact ⟨Q0y HR.out.symm,Ext.box _ _⟩
 have h1':((t.basics.length:Int) == 0) = false:=by rw [beq_eq_false_iff_ne]; omega
 by_cases h2:t.gates.length = 0
 . have HR:Hid (t.err = 12):=Lib.hid (by unfold Tree.err; rw [if_pos (.inr h2)])
   have h2':((t.gates.length:Int) == 0) = true:=by rw [beq_iff_eq]; omega
   clear h1 h2;go_enter Tryz.func12,Tryz.ntmps12;go_wp2;go_ret;exact ⟨Q0y HR.out.symm,Ext.box _ _⟩
 have h2':((t.gates.length:Int) == 0) = false:=by rw [beq_eq_false_iff_ne]; omega
 have hr1:¬ (t.basics.length = 0 ∨ t.gates.length = 0):=by omega
 have HR1:Hid (t.err = if 12 < t.size ∨ 32 < t.gates.length then 5 else Q0g ((List.range t.size).map t.Q1f ++ (List.range t.gates.length).map t.Q1z)):=Lib.hid (by unfold Tree.err; rw [if_neg hr1])
 have HSIZE:Hid (t.size = t.basics.length + t.causes.length):=by exact (rfl:t.size = _)
 obtain ⟨n,hn⟩:∃ n,t.size = n:=⟨_,rfl⟩;have HN:=Lib.hid hn;rw [hn] at HR1 HSIZE;clear h1 h2 hr1 hn;go_enter Tryz.func12,Tryz.ntmps12;go_wp2_with fail;change Calls _ _ _ (w.alloc (.cells #[.slice A t.basics.length capa,.slice B t.causes.length capb,.slice G t.gates.length capg] 26)) _;obtain ⟨W,hWW,k0,HXW,eW⟩:=Q3a w 26 #[.slice A t.basics.length capa,.slice B t.causes.length capb,.slice G t.gates.length capg];rw [hWW];clear hWW;have HT:=Lib.hid (HT0.out.ext HXW.out);have K0:=Lib.hid k0;have HS:Hid (∀ (w':World) (v:Value),IsTree w' v t -> Calls Tryz.prog 18 #[v] w' fun e w''=>e = .returned (.int .i64 n) /\ Ext w' w''):=Lib.hid (by intro w' v h; rw [<- HN.out]; exact X9q _ _ _ h)
 clear k0;refine (HS.out _ _ ⟨_,_,_,rfl,HT.out⟩).mono ?_;rintro e w1 ⟨rfl,hx1⟩;have c2:=(K0.out.ext hx1).cell 2;simp only [Go.Tw.gA,Go.Tw.gB,Go.Tw.gC] at c2
 by_cases hb:12 < n
 . have hb':(12:Int) < (n:Int):=by omega
   have HR:Hid (t.err = 5):=Lib.hid (by rw [HR1.out,if_pos (.inl hb)])
   clear hb;go_wp2;go_ret;exact ⟨Q0y HR.out.symm,HXW.out.trans hx1⟩
 have hb':¬ (12:Int) < (n:Int):=by omega
 by_cases hg:32 < t.gates.length
 . have hg':(32:Int) < (t.gates.length:Int):=by omega
   have HR:Hid (t.err = 5):=Lib.hid (by rw [HR1.out,if_pos (.inr hg)])
   clear hb hg;go_wp2;go_ret;exact ⟨Q0y HR.out.symm,HXW.out.trans hx1⟩
 have hg':¬ (32:Int) < (t.gates.length:Int):=by omega
 have HBODY:Hid (t.err = Q0g ((List.range n).map t.Q1f ++ (List.range t.gates.length).map t.Q1z)):=Lib.hid (by rw [HR1.out,if_neg (by omega)])
 have HX1:=Lib.hid hx1;clear hb hg hx1;go_wp2;clear c2
 go_loopw [3] (fun i wr=>∃ (k:Nat),k <= n /\ i = .int .i64 k /\ (∀ j,j < k -> t.Q1f j = 0) /\ Ext W wr) (fun i _=>n - (intOf i).toNat)
 case atStart=>exact ⟨0,Nat.zero_le _,rfl,fun j hj=>by omega,HX1.out⟩
 case round =>
  obtain ⟨k,hk,rfl,hz,hx⟩:=hrel;have HZ:=Lib.hid hz;have HX:=Lib.hid hx;clear hz hx;have kt:=K0.out.ext HX.out;have c0:=kt.cell 0;have c1:=kt.cell 1;have c2:=kt.cell 2;simp only [Go.Tw.gA,Go.Tw.gB,Go.Tw.gC] at c0 c1 c2;clear kt;go_wp2_with fail;refine (HS.out _ _ ⟨_,_,_,rfl,HT.out.ext HX.out⟩).mono ?_;rintro e w2 ⟨rfl,hx2⟩;replace c0:=hx2.cell c0;replace c1:=hx2.cell c1;replace c2:=hx2.cell c2;have HX2:=Lib.hid (HX.out.trans hx2);clear hx2 HX
  by_cases hlt:k < n
  . have hks:k < t.size:=by rw [HN.out]; exact hlt
    have HKS:=Lib.hid hks;have HEV:=Lib.hid (Y3n t k);obtain ⟨E,hE⟩:∃ E,Q0g [Q3f (t.nameAt k),Q0k (t.Q1g k) 0 16] = E:=⟨_,rfl⟩;have HE:Hid (∀ (w':World) (u:Value),Q0e w' u [Q3f (t.nameAt k),Q0k (t.Q1g k) 0 16] -> Calls Tryz.prog 11 #[u] w' fun e w''=>e = .returned (.int .i64 E) /\ w' = w''):=by
     exact (by intro w' u h; rw [<- hE]; exact Z0y _ _ _ h:∀ (w':World) (u:Value),Q0e w' u [Q3f (t.nameAt k),Q0k (t.Q1g k) 0 16] -> Calls Tryz.prog 11 #[u] w' fun e w''=>e = .returned (.int .i64 E) /\ w' = w'')
    rw [hE] at HEV;have HSH:=Lib.hid (Y7j HT.out hks);clear hks hE;have hdr:=(Ext.refl w2).drew;go_wp2;refine Flow.Q2p [.w,.p,.w,.w,.w,.p,.w,.w,.w,.w,.p] [0,1,2,3,4,5,6,7,8,9,10] [[],[],[0,1],[2],[],[],[3,4,5],[6],[3,7],[7,8],[0,1,2,3,4,5,6,7,8,9]]
     [.c 0 (.agg #[.slice A t.basics.length capa,.slice B t.causes.length capb,.slice G t.gates.length capg]),.c 1 (.int .i64 k),.c 2 (.string (t.nameAt k)),.c 3 (.int .i64 (Q3f (t.nameAt k))),.c 4 (.agg #[.slice A t.basics.length capa,.slice B t.causes.length capb,.slice G t.gates.length capg]),.c 5 (.int .i64 k),.c 6 (.int .i64 (t.Q1g k)),.c 7 (.int .i64 (Q0k (t.Q1g k) 0 16)),⟨fun v wz=>Q0e wz (v 8) [Q3f (t.nameAt k),Q0k (t.Q1g k) 0 16],fun _ _ _ hx h=>h.ext hx⟩,.c 9 (.int .i64 E),.c 10 (.int .i64 E)]
     (by kernel_rfl) rfl (by kernel_rfl) ⟨?g0,?g1,?g2,?g3,?g4,?g5,?g6,?g7,?g8,?g9,?g10,trivial⟩ ?post
    case g0 | g4=>
     intro v w1 hx;intro bb hbb;intro K hK;have o1:bb.eval (.tmp 1) = .pointer (some ⟨w.heap.size,0,none⟩):=by rw [hbb]; dsimp only; (try simp (discharger:=decide) only [eval_put_ne]); rfl
     exact Q0n (.tmp 1) _ rfl Tryz.Q2s Tryz.Q0x o1 (K0.out.ext (HX2.out.trans (hdr.trans hx))) rfl (hK _ _ (Ext.refl _) rfl)
    case g1 | g5=>
     intro v w1 hx;intro bb hbb;subst hbb;refine ⟨_,fun w=>?_,rfl⟩;go_simp
    case g2=>
     intro v w1 hx;(repeat intro (zq:v _ = _));intro bb hbb;subst hbb;intro K hK;go_simp;refine Q0d (name_any w1 _ t k ⟨_,_,_,rfl,HT.out.ext (HX2.out.trans (hdr.trans hx))⟩ HKS.out) ?_;rintro e w2 ⟨rfl,hx2⟩;exact ⟨_,rfl,hK _ _ hx2 rfl⟩
    case g3=>
     intro v w1 hx;(repeat intro (zq:v _ = _));intro bb hbb;subst hbb;intro K hK;go_simp;refine Q0d (X8w w1 _ HSH.out) ?_;rintro e w2 ⟨rfl,rfl⟩;exact ⟨_,rfl,hK _ _ (Ext.refl _) rfl⟩
    case g6=>
     intro v w1 hx;(repeat intro (zq:v _ = _));intro bb hbb;subst hbb;intro K hK;go_simp;refine Q0d (Y7y w1 _ t k ⟨_,_,_,rfl,HT.out.ext (HX2.out.trans (hdr.trans hx))⟩ HKS.out) ?_;rintro e w2 ⟨rfl,hx2⟩;exact ⟨_,rfl,hK _ _ hx2 rfl⟩
    case g7=>
     intro v w1 hx;(repeat intro (zq:v _ = _));intro bb hbb;subst hbb;intro K hK;go_simp;refine Q0d (Q7o w1 _ _ _) ?_;rintro e w2 ⟨rfl,rfl⟩;exact ⟨_,rfl,hK _ _ (Ext.refl _) rfl⟩
    case g8=>
     intro v w1 hx;(repeat intro (zq:v _ = _));intro bb hbb;subst hbb;intro K hK;go_simp;exact hK _ _ (Ext.box _ _) (Q3h (l:=[Q3f (t.nameAt k),Q0k (t.Q1g k) 0 16]) (by simp))
    case g9=>
     intro v w1 hx (q7:v 7 = _) (q8:Q0e w1 (v 8) [Q3f (t.nameAt k),Q0k (t.Q1g k) 0 16]);intro bb hbb;subst hbb;intro K hK;go_simp;refine Q0d (HE.out _ _ q8) ?_;rintro e w2 ⟨rfl,rfl⟩;exact ⟨_,rfl,hK _ _ (Ext.refl _) rfl⟩
    case g10=>
     intro v w1 hx (q0:v 0 = _) (q1:v 1 = _) (q2:v 2 = _) (q3:v 3 = _) (q4:v 4 = _) (q5:v 5 = _) (q6:v 6 = _) (q7:v 7 = _) _ (q9:v 9 = _);intro bb hbb;subst hbb;refine ⟨_,fun w=>?_,rfl⟩;go_simp
    case post =>
     intro v w1 hx (q0:v 0 = _) (q1:v 1 = _) (q2:v 2 = _) (q3:v 3 = _) (q4:v 4 = _) (q5:v 5 = _) (q6:v 6 = _) (q7:v 7 = _) (q8:Q0e w1 (v 8) [Q3f (t.nameAt k),Q0k (t.Q1g k) 0 16]) (q9:v 9 = _) (q10:v 10 = _);simp only [Flow.All,Flow.acts,Act.put];go_simp;have hxx:=hdr.trans hx;replace c0:=hxx.cell c0;replace c1:=hxx.cell c1;replace c2:=hxx.cell c2;have HX3:=Lib.hid (HX2.out.trans hxx);clear hx hxx HE
     by_cases hE0:E = 0
     . have hne:(E != 0) = false:=by simp [hE0]
       have HEV2:Hid (t.Q1f k = if t.Q8r k then 9 else if k < t.basics.length then 0 else Q2r (Q0f t.causes (k - t.basics.length)) t.basics.length):=Lib.hid (by rw [HEV.out,if_neg (by simp [hE0])])
       clear hE0 HEV HX2 c0 c1 c2;go_wp2
       go_loopw [5] (fun i wr=>∃ (m:Nat),m <= k /\ i = .int .i64 m /\ Y3l t k m = false /\ Ext W wr) (fun i _=>k - (intOf i).toNat)
       case atStart=>exact ⟨0,Nat.zero_le _,rfl,rfl,HX3.out⟩
       case round =>
        obtain ⟨m,hm,rfl,htw,hx⟩:=hrel;have HTW:=Lib.hid htw;have HX:=Lib.hid hx;have kt:=K0.out.ext hx;have c0:=kt.cell 0;have c1:=kt.cell 1;have c2:=kt.cell 2;simp only [Go.Tw.gA,Go.Tw.gB,Go.Tw.gC] at c0 c1 c2;clear htw hx kt
        by_cases hmk:m < k
        . have HMS:Hid (m < t.size):=by exact (Nat.lt_trans hmk HKS.out)
          have HST:=Lib.hid (Y0t t k m);have HYES:Hid ((t.nameAt m == t.nameAt k) = true -> t.Q8r k = true):=Lib.hid (fun h=>Y4u hmk h);have HNM:Hid (∀ (w':World) (v:Value),IsTree w' v t -> Calls Tryz.prog 47 #[v,.int .i64 m] w' fun e w''=>e = .returned (.string (t.nameAt m)) /\ Ext w' w''):=Lib.hid (fun w' v h=>name_any w' v t m h HMS.out);have HNK:Hid (∀ (w':World) (v:Value),IsTree w' v t -> Calls Tryz.prog 47 #[v,.int .i64 k] w' fun e w''=>e = .returned (.string (t.nameAt k)) /\ Ext w' w''):=Lib.hid (fun w' v h=>name_any w' v t k h HKS.out);obtain ⟨x,hx⟩:∃ x,t.nameAt m = x:=⟨_,rfl⟩;obtain ⟨y,hy⟩:∃ y,t.nameAt k = y:=⟨_,rfl⟩;rw [hx] at HNM;rw [hy] at HNK;rw [hx,hy] at HST HYES;obtain ⟨q,hq⟩:∃ q,(x.toList == y.toList) = q:=⟨_,rfl⟩;have HQ:Hid ((x == y) = q):=Lib.hid (by rw [Go.beq_toListBytes]; exact hq)
          rw [HQ.out] at HST HYES;have hdr:=(Ext.refl wr).drew;clear hx hy
          go_light
          go_wp2;refine Flow.Q2p [.w,.p,.w,.w,.p,.w,.p] [0,1,2,3,4,5,6] [[],[],[0,1],[],[],[2,3,4],[2,5]]
           [.c 0 (.agg #[.slice A t.basics.length capa,.slice B t.causes.length capb,.slice G t.gates.length capg]),.c 1 (.int .i64 m),.c 2 (.string x),.c 3 (.agg #[.slice A t.basics.length capa,.slice B t.causes.length capb,.slice G t.gates.length capg]),.c 4 (.int .i64 k),.c 5 (.string y),.c 6 (.bool q)]
           (by kernel_rfl) rfl (by kernel_rfl) ⟨?g0,?g1,?g2,?g3,?g4,?g5,?g6,trivial⟩ ?post
          case g0 | g3=>
           intro v w1 hx;intro bb hbb;intro K hK;have o1:bb.eval (.tmp 1) = .pointer (some ⟨w.heap.size,0,none⟩):=by rw [hbb]; dsimp only; (try simp (discharger:=decide) only [eval_put_ne]); rfl
           exact Q0n (.tmp 1) _ rfl Tryz.Q2s Tryz.Q0x o1 (K0.out.ext (HX.out.trans (hdr.trans hx))) rfl (hK _ _ (Ext.refl _) rfl)
          case g1 | g4=>
           intro v w1 hx;intro bb hbb;subst hbb;refine ⟨_,fun w=>?_,rfl⟩;go_simp
          case g2=>
           intro v w1 hx;(repeat intro (zq:v _ = _));intro bb hbb;subst hbb;intro K hK;go_simp;refine Q0d (HNM.out w1 _ ⟨_,_,_,rfl,HT.out.ext (HX.out.trans (hdr.trans hx))⟩) ?_;rintro e w2 ⟨rfl,hx2⟩;exact ⟨_,rfl,hK _ _ hx2 rfl⟩
          case g5=>
           intro v w1 hx;(repeat intro (zq:v _ = _));intro bb hbb;subst hbb;intro K hK;go_simp;refine Q0d (HNK.out w1 _ ⟨_,_,_,rfl,HT.out.ext (HX.out.trans (hdr.trans hx))⟩) ?_;rintro e w2 ⟨rfl,hx2⟩;exact ⟨_,rfl,hK _ _ hx2 rfl⟩
          case g6=>
           intro v w1 hx;(repeat intro (zq:v _ = _));intro bb hbb;subst hbb;refine ⟨_,fun w=>?_,rfl⟩;go_simp
          case post =>
           intro v w1 hx;(iterate 7 intro (zq:v _ = _));simp only [Flow.All,Flow.acts,Act.put];go_simp;have hxx:=HX.out.trans (hdr.trans hx);have HXX:=Lib.hid hxx;clear hx hxx hq;cases q with
           | true =>
             go_wp2;go_ret;exact ⟨Q0y (by rw [HBODY.out,Q6y hlt HZ.out (by rw [HEV2.out,HYES.out (by trivial),if_pos rfl]; decide),HEV2.out,HYES.out (by trivial),if_pos rfl]),HXW.out.trans HXX.out⟩
           | false =>
             go_wp2;go_roundw
             case rel=>exact ⟨m + 1,by omega,by go_num,by rw [HST.out,HTW.out]; rfl,HXX.out⟩
             case measure=>simp [intOf]; omega
        . have hmk':m = k:=by omega
          subst hmk';have HEV3:Hid (t.Q1f m = if m < t.basics.length then 0 else Q2r (Q0f t.causes (m - t.basics.length)) t.basics.length):=Lib.hid (by rw [HEV2.out,show t.Q8r m = false from HTW.out]; rfl)
          clear HEV2 HTW
          by_cases hmb:m < t.basics.length
          . have HE0:Hid (t.Q1f m = 0):=Lib.hid (by rw [HEV3.out,if_pos hmb])
            go_wp2;go_roundw
            case rel=>exact ⟨m + 1,by omega,by go_num,fun j hj=>by rcases Nat.lt_or_ge j m with h | h; exact HZ.out j h; rw [show j = m from by omega]; exact HE0.out,HX.out⟩
            case measure=>simp [intOf]; omega
          . obtain ⟨j,rfl⟩:∃ j,m = t.basics.length + j:=⟨m - t.basics.length,by omega⟩
            have hjc:j < t.causes.length:=by have:=HSIZE.out; omega
            have HEV4:Hid (t.Q1f (t.basics.length + j) = Q2r (Q0f t.causes j) t.basics.length):=Lib.hid (by rw [HEV3.out,if_neg hmb,Nat.add_sub_cancel_left])
            obtain ⟨_,_,he0,_,_,hcc⟩:=HT.out.causes.opened;cases he0;obtain ⟨b1,off,mv,rfl,hb1,_,_,e2,hM,_⟩:=hcc j hjc;obtain ⟨A3,cap3,rfl,_,_,_⟩:=hM.opened;have HMM:=Lib.hid (hM.ext HX.out);replace e2:=HX.out.cell e2;have hjI:(j:Int) < t.causes.length:=by omega
            have hwj:IntKind.i64.wrap ((t.basics.length:Int) + (j:Int) - (t.basics.length:Int)) = (j:Int):=by rw [show (t.basics.length:Int) + (j:Int) - (t.basics.length:Int) = (j:Int) by omega]; exact Q3v _ (by omega) (by omega)
            have hge:(t.basics.length:Int) <= ((t.basics.length + j:Nat):Int):=by omega
            obtain ⟨E2,hE2⟩:∃ E,Q2r (Q0f t.causes j) t.basics.length = E:=⟨_,rfl⟩;have HCL:Hid (∀ (w':World) (u:Value),Q0e w' u (Q0f t.causes j) -> Calls Tryz.prog 67 #[u,.int .i64 t.basics.length] w' fun e w''=>e = .returned (.int .i64 E2) /\ Ext w' w''):=Lib.hid (by intro w' u h; rw [<- hE2]; exact X1s _ _ _ _ h)
            rw [hE2] at HEV4;have hdr:=(Ext.refl wr).drew;clear hE2 hcc hM hmb HEV3;have hge2:(t.basics.length:Int) <= (t.basics.length:Int) + (j:Int):=by omega
            go_wp2;refine Flow.Q2p [.p,.w,.p,.p,.w,.p,.p,.p,.p,.w,.p,.w,.p,.w,.p] [0,1,2,3,4,5,6,7,8,9,10,11,12,13,14] [[],[0],[],[],[3],[4],[2,5],[1,6],[7],[8],[],[10],[11],[9,12],[0,1,2,3,4,5,6,7,8,9,10,11,12,13]]
             [.c 0 (.pointer (some ⟨w.heap.size,1,none⟩)),.c 1 (.slice (some ⟨b1,off,none⟩) t.causes.length capb),.c 2 (.int .i64 (t.basics.length + j:Nat)),.c 3 (.pointer (some ⟨w.heap.size,0,none⟩)),.c 4 (.slice A t.basics.length capa),.c 5 (.int .i64 ((t.basics.length:Nat):Int)),.c 6 (.int .i64 (j:Int)),.c 7 (.pointer (some ⟨b1,off + j * 3,none⟩)),.c 8 (.pointer (some ⟨b1,off + j * 3 + 2,none⟩)),.c 9 (.slice A3 (Q0f t.causes j).length cap3),.c 10 (.pointer (some ⟨w.heap.size,0,none⟩)),.c 11 (.slice A t.basics.length capa),.c 12 (.int .i64 ((t.basics.length:Nat):Int)),.c 13 (.int .i64 E2),.c 14 (.int .i64 E2)]
             (by kernel_rfl) rfl (by kernel_rfl) ⟨?g0,?g1,?g2,?g3,?g4,?g5,?g6,?g7,?g8,?g9,?g10,?g11,?g12,?g13,?g14,trivial⟩ ?post
            case g0 | g2 | g3 | g10=>
             intro v w1 hx;intro bb hbb;subst hbb;refine ⟨_,fun w=>?_,rfl⟩;go_simp
            case g1 | g4 | g9 | g11=>
             intro v w1 hx;(repeat intro (zq:v _ = _));intro bb hbb;subst hbb;have c0:=hx.cell c0;have c1:=hx.cell c1;have e2:=hx.cell e2;intro K hK;go_simp;exact hK _ _ (Ext.refl _) rfl
            case g5 | g6 | g7 | g8 | g12 | g14=>
             intro v w1 hx;(repeat intro (zq:v _ = _));intro bb hbb;subst hbb;refine ⟨_,fun w=>?_,rfl⟩;go_simp
            case g13=>
             intro v w1 hx;(repeat intro (zq:v _ = _));intro bb hbb;subst hbb;have c0:=hx.cell c0;have c1:=hx.cell c1;have e2:=hx.cell e2;intro K hK;go_simp;refine Q0d (HCL.out w1 _ (HMM.out.ext (hdr.trans hx))) ?_;rintro e w2 ⟨rfl,hx2⟩;exact ⟨_,rfl,hK _ _ hx2 rfl⟩
            case post =>
             intro v w1 hx;(iterate 15 intro (zq:v _ = _));simp only [Flow.All,Flow.acts,Act.put];go_simp;have hxx:=HX.out.trans (hdr.trans hx);have HXX:=Lib.hid hxx;clear hx hxx
             by_cases hE2:E2 = 0
             . have hne:(E2 != 0) = false:=by simp [hE2]
               have HE0:=Lib.hid (HEV4.out.trans hE2);clear hE2;go_wp2;go_roundw
               case rel=>exact ⟨t.basics.length + j + 1,by omega,by go_num,fun i hi=>by rcases Nat.lt_or_ge i (t.basics.length + j) with h | h; exact HZ.out i h; rw [show i = t.basics.length + j from by omega]; exact HE0.out,HXX.out⟩
               case measure=>simp [intOf]; omega
             . have hne:(E2 != 0) = true:=by simp [hE2]
               have HE0:=Lib.hid hE2;clear hE2;go_wp2;go_ret;exact ⟨Q0y (by rw [HBODY.out,Q6y hlt HZ.out (by rw [HEV4.out]; exact HE0.out),HEV4.out]),HXW.out.trans HXX.out⟩
     . have hne:(E != 0) = true:=by simp [hE0]
       have HEV2:Hid (t.Q1f k = E):=Lib.hid (by rw [HEV.out,if_pos hE0])
       have HE0:=Lib.hid hE0;clear hE0;go_wp2;go_ret;exact ⟨Q0y (by rw [HBODY.out,Q6y hlt HZ.out (by rw [HEV2.out]; exact HE0.out),HEV2.out]),HXW.out.trans HX3.out⟩
  . have hkn:k = n:=by omega
    have HFB:Hid (t.err = Q0g ((List.range t.gates.length).map t.Q1z)):=Lib.hid (by rw [HBODY.out,Q9t (fun j hj=>HZ.out j (by omega))])
    clear hkn c0 c1 c2;go_wp2
    go_loopw [7] (fun i wr=>∃ (g:Nat),g <= t.gates.length /\ i = .int .i64 g /\ (∀ j,j < g -> t.Q1z j = 0) /\ Ext W wr) (fun i _=>t.gates.length - (intOf i).toNat)
    case atStart=>exact ⟨0,Nat.zero_le _,rfl,fun j hj=>by omega,HX2.out⟩
    case round =>
     obtain ⟨g,hg,rfl,hz,hx⟩:=hrel;have HZG:=Lib.hid hz;have HX:=Lib.hid hx;have kt:=K0.out.ext hx;have c0:=kt.cell 0;have c2:=kt.cell 2;simp only [Go.Tw.gA,Go.Tw.gB,Go.Tw.gC] at c0 c2;clear hz hx kt
     by_cases hlg:g < t.gates.length
     . obtain ⟨_,_,he0,_,_,hcc⟩:=HT.out.gates.opened
       cases he0;obtain ⟨b1,off,mv,rfl,hb1,e0,e1,e2,hM,_⟩:=hcc g hlg;obtain ⟨A3,cap3,rfl,_,_,_⟩:=hM.opened;have HMM:=Lib.hid (hM.ext HX.out);replace e0:=HX.out.cell e0;replace e1:=HX.out.cell e1;replace e2:=HX.out.cell e2;have hgI:(g:Int) < t.gates.length:=by omega
       have hwg:IntKind.i64.wrap ((t.basics.length:Int) + (g:Int)) = (t.basics.length:Int) + (g:Int):=Q3v _ (by omega) (by omega)
       have HGE:Hid (∀ (w':World) (u:Value),Q0e w' u (Q0m t.gates g) -> Calls Tryz.prog 68 #[.agg #[.string (Q2f t.gates g),.int .i64 (Q3e t.gates g),u],.int .i64 ((t.basics.length:Int) + g)] w' fun e w''=>e = .returned (.int .i64 (t.Q1z g)) /\ Ext w' w''):=Lib.hid (fun w' u h=>X8r w' _ u _ _ _ h);obtain ⟨E,hE⟩:∃ E,t.Q1z g = E:=⟨_,rfl⟩;rw [hE] at HGE;have HE:=Lib.hid hE;have hdr:=(Ext.refl wr).drew;clear hE hcc hM
       go_light
       go_wp2;refine Flow.Q2p [.p,.w,.p,.p,.w,.p,.w,.p,.p,.p,.w,.p] [0,1,2,3,4,5,6,7,8,9,10,11] [[],[0],[],[1,2],[3],[],[5],[6],[],[7,8],[4,9],[0,1,2,3,4,5,6,7,8,9,10]]
        [.c 0 (.pointer (some ⟨w.heap.size,2,none⟩)),.c 1 (.slice (some ⟨b1,off,none⟩) t.gates.length capg),.c 2 (.int .i64 g),.c 3 (.pointer (some ⟨b1,off + g * 3,none⟩)),.c 4 (.agg #[.string (Q2f t.gates g),.int .i64 (Q3e t.gates g),.slice A3 (Q0m t.gates g).length cap3]),.c 5 (.pointer (some ⟨w.heap.size,0,none⟩)),.c 6 (.slice A t.basics.length capa),.c 7 (.int .i64 ((t.basics.length:Nat):Int)),.c 8 (.int .i64 g),.c 9 (.int .i64 ((t.basics.length:Int) + g)),.c 10 (.int .i64 E),.c 11 (.int .i64 E)]
        (by kernel_rfl) rfl (by kernel_rfl) ⟨?g0,?g1,?g2,?g3,?g4,?g5,?g6,?g7,?g8,?g9,?g10,?g11,trivial⟩ ?post
       case g0 | g2 | g5 | g8=>
        intro v w1 hx;intro bb hbb;subst hbb;refine ⟨_,fun w=>?_,rfl⟩;go_simp
       case g1 | g4 | g6=>
        intro v w1 hx;(repeat intro (zq:v _ = _));intro bb hbb;subst hbb;have c0:=hx.cell c0;have c2:=hx.cell c2;have e0:=hx.cell e0;have e1:=hx.cell e1;have e2:=hx.cell e2;intro K hK;go_simp;exact hK _ _ (Ext.refl _) rfl
       case g3 | g7 | g9 | g11=>
        intro v w1 hx;(repeat intro (zq:v _ = _));intro bb hbb;subst hbb;refine ⟨_,fun w=>?_,rfl⟩;go_simp
       case g10=>
        intro v w1 hx;(repeat intro (zq:v _ = _));intro bb hbb;subst hbb;have c0:=hx.cell c0;have c2:=hx.cell c2;have e0:=hx.cell e0;have e1:=hx.cell e1;have e2:=hx.cell e2;intro K hK;go_simp;refine Q0d (HGE.out w1 _ (HMM.out.ext (hdr.trans hx))) ?_;rintro e w2 ⟨rfl,hx2⟩;exact ⟨_,rfl,hK _ _ hx2 rfl⟩
       case post =>
        intro v w1 hx;(iterate 12 intro (zq:v _ = _));simp only [Flow.All,Flow.acts,Act.put];go_simp;have hxx:=HX.out.trans (hdr.trans hx);have HXX:=Lib.hid hxx;clear hx hxx
        by_cases hE2:E = 0
        . have hne:(E != 0) = false:=by simp [hE2]
          have HE0:=Lib.hid (HE.out.trans hE2);clear hE2;go_wp2;go_roundw
          case rel=>exact ⟨g + 1,by omega,by go_num,fun i hi=>by rcases Nat.lt_or_ge i g with h | h; exact HZG.out i h; rw [show i = g from by omega]; exact HE0.out,HXX.out⟩
          case measure=>simp [intOf]; omega
        . have hne:(E != 0) = true:=by simp [hE2]
          have HE0:=Lib.hid hE2;clear hE2;go_wp2;go_ret;exact ⟨Q0y (by rw [HFB.out,<- List.append_nil ((List.range t.gates.length).map t.Q1z),Q6y hlg HZG.out (by rw [HE.out]; exact HE0.out),HE.out]),HXW.out.trans HXX.out⟩
     . have HEN:Hid (t.err = 0):=Lib.hid (by rw [HFB.out,<- List.append_nil ((List.range t.gates.length).map t.Q1z),Q9t (fun j hj=>HZG.out j (by omega))]; rfl)
       go_wp2;go_ret;exact ⟨Q0y HEN.out.symm,HXW.out.trans HX.out⟩
end Go.Proofs
namespace Go.Proofs
open Go.RowKit Go.Tw Go.Flow
structure Fits (t:Tree) (n:Nat):Prop where
 b:t.basics.length <= n ∨ t.basics.length = 13
 c:t.causes.length <= n
 g:t.gates.length <= 33
 m:∀ k,k < t.causes.length -> (Q0f t.causes k).length <= 14
 i:∀ k,k < t.gates.length -> (Q0m t.gates k).length <= 14
 g8:t.gates.length <= 8 ∨ t.gates.length = 33
 s:t.size <= n ∨ t.err ≠ 0
structure Good (t:Tree) (n:Nat):Prop where
 b:t.basics.length <= n
 c:t.causes.length <= n
 g:t.gates.length <= 8
 nm:∀ k,k < t.size -> (t.nameAt k).size <= 40
 m:∀ k,k < t.causes.length -> (Q0f t.causes k).length <= 14
 kd:∀ k,k < t.gates.length -> (Q2f t.gates k).size <= 40
 i:∀ k,k < t.gates.length -> (Q0m t.gates k).length <= 14
 s:t.size <= n
def Y0u (t:Tree) (n:Nat) (w:World) (e:Ending) (w':World):Prop:=∃ q,e = .returned (.bool q) /\ (q = true -> Fits t n) /\ Ext w w' /\ (q = false -> ¬ Good t n)
theorem Q3p {t:Tree} {n:Nat} {w w':World} {e:Ending} (q:Bool) (he:e = .returned (.bool q)) (hf:q = true -> Fits t n) (hx:Ext w w') (hg:q = false -> ¬ Good t n):Y0u t n w e w':=⟨q,he,hf,hx,hg⟩
theorem Z1a (w:World) (v:Value) (t:Tree) (n:Nat) (ht:IsTree w v t) (hn:n <= 1000) :
    Calls Tryz.prog 8 #[v,.int .i64 n] w fun e w'=>Y0u t n w e w':=by
 obtain ⟨a,b,c,rfl,h3⟩:=ht;obtain ⟨A,capa,rfl,hl1,hcap1,_⟩:=h3.basics.opened;obtain ⟨B,capb,rfl,hl2,hcap2,_⟩:=h3.causes.opened;obtain ⟨G,capg,rfl,hl3,hcap3,_⟩:=h3.gates.opened;have HT0:=Lib.hid h3;clear h3;go_enter Tryz.func8,Tryz.ntmps8;have hA:(n < t.basics.length /\ t.basics.length ≠ 13) ∨ (¬ n < t.basics.length) ∨ (n < t.basics.length /\ t.basics.length = 13):=by omega
 rcases hA with ⟨hA,hA2⟩ | hAA
 . have hA3:((t.basics.length:Int) != 13) = true:=by simp; omega
   go_wp2;go_ret;exact Q3p false rfl (fun h=>by cases h) (Ext.box _ _) (fun _ h=>by have:=h.b; omega)
 have HA:Hid (t.basics.length <= n ∨ t.basics.length = 13):=Lib.hid (by omega)
 have hA2:∃ q,((t.basics.length:Int) != 13) = q /\ (n < t.basics.length -> q = false):=⟨_,rfl,fun h=>by simp; omega⟩
 obtain ⟨q13,hq13,hqA⟩:=hA2;have hbase:t.basics.length <= 2000:=by omega
 by_cases hB:n < t.causes.length
 . rcases hAA with hA | ⟨hA,hA3⟩
   . go_wp2
     go_ret;exact Q3p false rfl (fun h=>by cases h) (Ext.box _ _) (fun _ h=>by have:=h.c; omega)
   . rw [hqA hA] at hq13
     clear hA3;go_wp2;go_ret;exact Q3p false rfl (fun h=>by cases h) (Ext.box _ _) (fun _ h=>by have:=h.c; omega)
 have hC:(8 < t.gates.length /\ t.gates.length ≠ 33) ∨ (¬ 8 < t.gates.length) ∨ (8 < t.gates.length /\ t.gates.length = 33):=by omega
 rcases hC with ⟨hC,hC2⟩ | hCC
 . have hC3:((t.gates.length:Int) != 33) = true:=by simp; omega
   rcases hAA with hA | ⟨hA,hA3⟩
   . go_wp2
     go_ret;exact Q3p false rfl (fun h=>by cases h) (Ext.box _ _) (fun _ h=>by have:=h.g; omega)
   . rw [hqA hA] at hq13
     clear hA3;go_wp2;go_ret;exact Q3p false rfl (fun h=>by cases h) (Ext.box _ _) (fun _ h=>by have:=h.g; omega)
 have HG:Hid (t.gates.length <= 33):=Lib.hid (by omega)
 have HG8:Hid (t.gates.length <= 8 ∨ t.gates.length = 33):=Lib.hid (by omega)
 have hgI:t.gates.length <= 33:=HG.out;have hC2:∃ q,((t.gates.length:Int) != 33) = q /\ (8 < t.gates.length -> q = false):=⟨_,rfl,fun h=>by simp; omega⟩
 obtain ⟨q33,hq33,hqC⟩:=hC2
 rcases hAA with hA | ⟨hA,hA3⟩ <;> rcases hCC with hC | ⟨hC,hC3⟩ <;>
 (first | (rw [hqA hA] at hq13; clear hA3) | skip) <;> (first | (rw [hqC hC] at hq33; clear hC3) | skip) <;> clear hqA hqC <;>
 (go_wp2_with fail
  change Code.wp _ _ _ _ (w.alloc (.cells #[.slice A t.basics.length capa,.slice B t.causes.length capb,.slice G t.gates.length capg] 26));obtain ⟨W,hWW,k0,HXW,eW⟩:=Q3a w 26 #[.slice A t.basics.length capa,.slice B t.causes.length capb,.slice G t.gates.length capg];rw [hWW];clear hWW;have HT:=Lib.hid (HT0.out.ext HXW.out);have K0:=Lib.hid k0;clear k0 hq13 hq33
  go_loopw [5] (fun i wr=>∃ k:Nat,k <= t.size /\ i = .int .i64 k /\ Ext W wr) (fun i _=>t.size - (intOf i).toNat)
  case atStart=>exact ⟨0,Nat.zero_le _,rfl,Ext.refl _⟩
  case round =>
   obtain ⟨k,hk,rfl,hx⟩:=hrel;have HX:=Lib.hid hx;have hk2:(k:Int) <= 4000:=by unfold Tree.size at hk; omega
   have HK:=Lib.hid (K0.out.ext hx);have c0:=HK.out.cell 0;have c1:=HK.out.cell 1;have c2:=HK.out.cell 2;simp only [Go.Tw.gA,Go.Tw.gB,Go.Tw.gC] at c0 c1 c2;go_wp2_with fail;refine (X9q _ _ t ⟨_,_,_,rfl,HT.out.ext hx⟩).mono ?_;rintro e w2 ⟨rfl,hx2⟩;obtain ⟨sz,hsz⟩:∃ x,t.size = x:=⟨_,rfl⟩;rw [hsz];have HSZ:=Lib.hid hsz;have d0:=hx2.cell c0;have d1:=hx2.cell c1;have d2:=hx2.cell c2;clear c0 c1 c2
   by_cases hlt:k < sz
   . go_wp2_with fail
     refine (name_any _ _ t k ⟨_,_,_,rfl,HT.out.ext (hx.trans hx2)⟩ (by omega)).mono ?_
     rintro e w3 ⟨rfl,hx3⟩;have HX3:=Lib.hid ((hx.trans hx2).trans hx3);obtain ⟨nm,hnm⟩:∃ x,t.nameAt k = x:=⟨_,rfl⟩;rw [hnm]
     by_cases h40:40 < nm.size
     . go_wp2
       go_ret;exact Q3p false rfl (fun h=>by cases h) (HXW.out.trans HX3.out) (fun _ h=>by have h1:=h.nm k (by have:=HSZ.out; omega); rw [hnm] at h1; omega)
     . go_wp2
       go_roundw
       case rel=>exact ⟨k + 1,by have:=HSZ.out; omega,by go_num,HX3.out⟩
       case measure=>have:=HSZ.out; simp [intOf]; omega
   . have HX2:=Lib.hid (hx.trans hx2)
     clear hsz hk hk2 hx hx2 HX;go_wp2;clear d0 d1 d2
     go_loopw [6] (fun i wr=>∃ k:Nat,k <= t.causes.length /\ i = .int .i64 k /\ (∀ j,j < k -> (Q0f t.causes j).length <= 14) /\ Ext W wr) (fun i _=>t.causes.length - (intOf i).toNat)
     case atStart=>exact ⟨0,Nat.zero_le _,rfl,fun j hj=>by omega,HX2.out⟩
     case round =>
      obtain ⟨k,hk,rfl,hm,hx⟩:=hrel;have HM:=Lib.hid hm;have HX:=Lib.hid hx;have kt:=K0.out.ext hx;have c1:=kt.cell 1;have c2:=kt.cell 2;simp only [Go.Tw.gA,Go.Tw.gB,Go.Tw.gC] at c1 c2;clear hm kt
      by_cases hlt:k < t.causes.length
      . obtain ⟨_,_,he0,_,_,hcc⟩:=HT.out.causes.opened
        cases he0;obtain ⟨b1,off,mv,rfl,hb1,_,_,e2,hM,_⟩:=hcc k hlt;obtain ⟨A3,cap3,rfl,hl33,_,_⟩:=hM.opened;replace e2:=hx.cell e2;have hkI:(k:Int) < t.causes.length:=by omega
        obtain ⟨ml,hml⟩:∃ x,(Q0f t.causes k).length = x:=⟨_,rfl⟩;rw [hml] at e2 hl33;have HML:=Lib.hid hml;clear hcc hM hx hml
        by_cases h14:14 < ml
        . go_wp2
          go_ret;exact Q3p false rfl (fun h=>by cases h) (HXW.out.trans HX.out) (fun _ h=>by have h1:=h.m k hlt; rw [HML.out] at h1; omega)
        . go_wp2
          go_roundw
          case rel=>exact ⟨k + 1,by omega,by go_num,(fun j hj=>by rcases Nat.lt_or_ge j k with h | h; exact HM.out j h; rw [show j = k from by omega,HML.out]; omega),HX.out⟩
          case measure=>simp [intOf]; omega
      . have HMA:Hid (∀ j,j < t.causes.length -> (Q0f t.causes j).length <= 14):=Lib.hid (fun j hj=>HM.out j (by omega))
        clear hx;go_wp2;clear c1 c2
        go_loopw [7] (fun i wr=>∃ k:Nat,k <= t.gates.length /\ i = .int .i64 k /\ (∀ j,j < k -> (Q0m t.gates j).length <= 14) /\ Ext W wr) (fun i _=>t.gates.length - (intOf i).toNat)
        case atStart=>exact ⟨0,Nat.zero_le _,rfl,fun j hj=>by omega,HX.out⟩
        case round =>
         obtain ⟨k,hk,rfl,hm,hx⟩:=hrel;have HM:=Lib.hid hm;have HX:=Lib.hid hx;have HKT:=Lib.hid (K0.out.ext hx);have c2:=HKT.out.cell 2;simp only [Go.Tw.gA,Go.Tw.gB,Go.Tw.gC] at c2;clear hm
         by_cases hlt:k < t.gates.length
         . obtain ⟨_,_,he0,_,_,hcc⟩:=HT.out.gates.opened
           cases he0;obtain ⟨b1,off,mv,rfl,hb1,e0,_,e2,hM,_⟩:=hcc k hlt;obtain ⟨A3,cap3,rfl,hl33,_,_⟩:=hM.opened;replace e0:=hx.cell e0;replace e2:=hx.cell e2;have hkI:(k:Int) < t.gates.length:=by omega
           obtain ⟨ml,hml⟩:∃ x,(Q0m t.gates k).length = x:=⟨_,rfl⟩;obtain ⟨kd,hkd⟩:∃ x,Q2f t.gates k = x:=⟨_,rfl⟩;rw [hml] at e2 hl33;rw [hkd] at e0;have HML:=Lib.hid hml;have HKD:=Lib.hid hkd;clear hcc hM hx hml hkd
           by_cases h40:40 < kd.size
           . go_wp2
             go_ret;exact Q3p false rfl (fun h=>by cases h) (HXW.out.trans HX.out) (fun _ h=>by have h1:=h.kd k hlt; rw [HKD.out] at h1; omega)
           . by_cases h14:14 < ml
             . go_wp2
               go_ret;exact Q3p false rfl (fun h=>by cases h) (HXW.out.trans HX.out) (fun _ h=>by have h1:=h.i k hlt; rw [HML.out] at h1; omega)
             . go_wp2
               go_roundw
               case rel=>exact ⟨k + 1,by omega,by go_num,(fun j hj=>by rcases Nat.lt_or_ge j k with h | h; exact HM.out j h; rw [show j = k from by omega,HML.out]; omega),HX.out⟩
               case measure=>simp [intOf]; omega
         . have HFITS:Hid ((t.size <= n ∨ t.err ≠ 0) -> Fits t n):=Lib.hid (fun hs=>⟨HA.out,by omega,HG.out,HMA.out,fun j hj=>HM.out j (by omega),HG8.out,hs⟩)
           have c0:=HKT.out.cell 0;have c1:=HKT.out.cell 1;simp only [Go.Tw.gA,Go.Tw.gB,Go.Tw.gC] at c0 c1;go_wp2_with fail;refine (X9q _ _ t ⟨_,_,_,rfl,HT.out.ext hx⟩).mono ?_;rintro e w4 ⟨rfl,hx4⟩;have HX4:=Lib.hid (hx.trans hx4);replace c0:=hx4.cell c0;replace c1:=hx4.cell c1;replace c2:=hx4.cell c2;obtain ⟨s2,hs2⟩:∃ x,t.size = x:=⟨_,rfl⟩;rw [hs2];have HS2:=Lib.hid hs2;clear hs2 hx hx4
           by_cases hle:s2 <= n
           . go_wp2
             go_ret;exact Q3p true rfl (fun _=>HFITS.out (.inl (by rw [HS2.out]; exact hle))) (HXW.out.trans HX4.out) (fun h=>by cases h)
           . go_wp2_with fail
             refine (Q5y _ _ t ⟨_,_,_,rfl,HT.out.ext HX4.out⟩).mono ?_;rintro e w5 ⟨rfl,hx5⟩;have HX5:=Lib.hid (HX4.out.trans hx5);obtain ⟨E,hE⟩:∃ x,t.err = x:=⟨_,rfl⟩;rw [hE];have HE:=Lib.hid hE;clear hE hx5;obtain ⟨q,hq⟩:∃ q,(E != 0) = q:=⟨_,rfl⟩;have HQ:=Lib.hid hq;go_wp2;go_ret;exact Q3p q rfl (fun h=>HFITS.out (.inr (by rw [HE.out]; intro h0; have h1:=HQ.out; rw [h0,h] at h1; cases h1))) (HXW.out.trans HX5.out) (fun _ h=>hle (by have h1:=h.s; rw [HS2.out] at h1; exact h1)))
theorem short_any (w:World) (v:Value) (t:Tree) (n:Nat) (ht:IsTree w v t) (hn:n <= 1000) :
    Calls Tryz.prog 8 #[v,.int .i64 n] w fun e w'=>∃ q,e = .returned (.bool q) /\ (q = true -> Fits t n) /\ Ext w w' :=
 (Z1a w v t n ht hn).mono fun _ _ ⟨q,h1,h2,h3,_⟩=>⟨q,h1,h2,h3⟩
end Go.Proofs
