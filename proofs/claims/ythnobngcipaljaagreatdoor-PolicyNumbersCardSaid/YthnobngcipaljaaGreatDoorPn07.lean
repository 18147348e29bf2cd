/- Contract of the reference: checkMember. Contract of the reference: CheckSeason. Contracts of the program: mapped errors of numbers; ContainsFunc over members (CheckSeason's closure). Plain law: each plan is what the policy of its closed histories comes to, and no policy does better than all plans. -/
import Derived.Test.YthnobngcipaljaaGreatDoorPn06
import Derived.Test.YthnobngcipaljaaGreatDoorPn03
import Derived.Test.YthnobngcipaljaaGreatDoorPn04
import Derived.Shelf.Abstract
set_option maxRecDepth 1000000
set_option maxHeartbeats 64000000
set_option linter.unusedVariables false
set_option linter.unusedSimpArgs false
set_option linter.constructorNameAsVariable false
open Go.Lib (hid)
namespace Go.Proofs
open Go.RowKit Go.Tw Go.Flow
attribute [local go_sem] Oper.semAt_some
theorem Q2i {w:World} {T:TypeId} {l:List Int} (hl:l.length <= 1000):Q0e (w.alloc (.cells (l.map (Value.int .i64)).toArray T)) (.slice (some ⟨w.heap.size,0,none⟩) l.length l.length) l:=by
 refine ⟨fun j=>.int .i64 (l.getD j 0),⟨some ⟨w.heap.size,0,none⟩,l.length,rfl,by omega,Nat.le_refl _,fun j hj=>⟨w.heap.size,0,rfl,?_⟩⟩,fun j hj=>?_⟩
 . have hj':j < l.length:=by omega
   rw [X2o]; simp [hj']
 . simp [hj]
def Q8i (l:List Mem) (i m:Nat):Bool:=(List.range m).any fun k=>Q1o l k == Q1o l i
theorem Y4h (l:List Mem) (i m:Nat):Q8i l i (m + 1)=(Q8i l i m || Q1o l m == Q1o l i):=by
 unfold Q8i;rw [List.range_succ,List.any_append]; simp
theorem Y8g {l:List Mem} {i m:Nat} (hm:m < i) (h:(Q1o l m == Q1o l i)=true):Q3s l i=true:=by
 unfold Q3s;rw [List.any_eq_true];exact ⟨m,List.mem_range.2 hm,h⟩
theorem X9z {s:Q0b} {i:Nat} (h:nameB (Q1o s.members i)=false):s.Q3g i=8:=if_pos h
theorem X6m {s:Q0b} {i:Nat} (h:nameB (Q1o s.members i)=true) (h2:Q3s s.members i=true):s.Q3g i=9:=(if_neg (by rw [h]; simp)).trans (if_pos h2)
theorem X2w {s:Q0b} {i:Nat} (h:nameB (Q1o s.members i)=true) (h2:Q3s s.members i=false) (h3:Q0h (Q0k s.members i) 1 1000 ≠ 0):s.Q3g i=3:=(if_neg (by rw [h]; simp)).trans ((if_neg (by rw [h2]; simp)).trans (if_pos h3))
theorem X5w {s:Q0b} {i:Nat} (h:nameB (Q1o s.members i)=true) (h2:Q3s s.members i=false) (h3:Q0h (Q0k s.members i) 1 1000=0) (h4:¬ ((Q0c s.members i).length=s.ships.length /\ (Q0z s.members i).length=s.ships.length /\ (Q1f s.members i).length=s.ships.length)):s.Q3g i=2 :=
 (if_neg (by rw [h]; simp)).trans ((if_neg (by rw [h2]; simp)).trans ((if_neg (fun hn=>hn h3)).trans (if_pos h4)))
theorem Y0j {s:Q0b} {i:Nat} (h:nameB (Q1o s.members i)=true) (h2:Q3s s.members i=false) (h3:Q0h (Q0k s.members i) 1 1000=0) (h4:(Q0c s.members i).length=s.ships.length /\ (Q0z s.members i).length=s.ships.length /\ (Q1f s.members i).length=s.ships.length):s.Q3g i=Q0l [Q0s (Q0c s.members i) 9,Q0s (Q0z s.members i) 1024,Q0s (Q1f s.members i) 1024] :=
 (if_neg (by rw [h]; simp)).trans ((if_neg (by rw [h2]; simp)).trans ((if_neg (fun hn=>hn h3)).trans (if_neg (fun hn=>hn h4))))
theorem Q6z {x a b:Int} (h:Q0h x a b ≠ 0):Q0h x a b=3:=by unfold Q0h at h ⊢; split at h <;> simp_all
theorem X7a (w:World) (v:Value) (s:Q0b) (i:Nat) (hv:Q0f w v s) (hi:i < s.members.length) :
    Calls Tryz.prog 89 #[v,.int .i64 (i:Int)] w fun e w'=>e=.returned (.int .i64 (s.Q3g i)) /\ Ext w w':=by
 obtain ⟨a,b,rfl,h2⟩:=hv;obtain ⟨A,capa,rfl,hla,-,-⟩:=h2.ships.opened;obtain ⟨B,capb,rfl,hlb,-,hc⟩:=h2.members.opened;obtain ⟨bm,off,x,y,z,rfl,hbm,e0,e1,e2,e3,e4,hx,hy,hz,hsh⟩:=hc i hi;obtain ⟨X,capx,rfl,hlx,-,-⟩:=hx.opened;obtain ⟨Y,capy,rfl,hly,-,-⟩:=hy.opened;obtain ⟨Z,capz,rfl,hlz,-,-⟩:=hz.opened;have HCC:Hid (∀ k,k < s.members.length -> w.cell? ⟨bm,off + k * 5,none⟩=some (.string (Q1o s.members k))):=hid (fun k hk=>by
  obtain ⟨b',off',_,_,_,hA,_,h0,_⟩:=hc k hk;cases hA;exact h0)
 have hiI:(i:Int) < s.members.length:=by omega
 have HSH:=hid hsh;have HXI:=hid hx;have HYI:=hid hy;have HZI:=hid hz;clear hc hsh h2 hx hy hz;have HMN:=hid (X9z (s:=s) (i:=i));have HMT:=hid (X6m (s:=s) (i:=i));have HMW:=hid (X2w (s:=s) (i:=i));have HMS:=hid (X5w (s:=s) (i:=i));have HMR:=hid (Y0j (s:=s) (i:=i));have HYES:Hid (∀ m,m < i -> (Q1o s.members m == Q1o s.members i)=true -> Q3s s.members i=true):=hid (fun m hm h=>Y8g hm h);have HSUC:Hid (∀ m,Q8i s.members i (m + 1)=(Q8i s.members i m || Q1o s.members m == Q1o s.members i)):=hid (fun m=>Y4h _ _ m)
 have HEND:Hid (Q8i s.members i i=Q3s s.members i):=hid rfl;obtain ⟨nm,hnm⟩:∃ x,Q1o s.members i=x:=⟨_,rfl⟩;obtain ⟨wt,hwt⟩:∃ x,Q0k s.members i=x:=⟨_,rfl⟩;obtain ⟨lc,hlc⟩:∃ x,Q0c s.members i=x:=⟨_,rfl⟩;obtain ⟨lo,hlo⟩:∃ x,Q0z s.members i=x:=⟨_,rfl⟩;obtain ⟨li,hli⟩:∃ x,Q1f s.members i=x:=⟨_,rfl⟩;have HCI:=hid (HCC.out i hi);rw [hnm] at e0 HSH HMN HMT HMW HMS HMR HYES HSUC HCI;rw [hwt] at e1 HMW HMS HMR;rw [hlc] at e2 hlx HXI HMS HMR;rw [hlo] at e3 hly HYI HMS HMR;rw [hli] at e4 hlz HZI HMS HMR;clear hnm hwt hlc hlo hli;go_enter Tryz.func89,Tryz.ntmps89;go_wp2_with fail;change Calls _ _ _ ((w.alloc (.cells #[.int .i64 s.limit,.slice A s.ships.length capa,.slice (some ⟨bm,off,none⟩) s.members.length capb] 25)).alloc (.cells #[.string nm,.int .i64 wt,.slice X lc.length capx,.slice Y lo.length capy,.slice Z li.length capz] 68)) _;obtain ⟨W,hWW,k0,k1,HXW,eW⟩:=Q2t w 25 #[.int .i64 s.limit,.slice A s.ships.length capa,.slice (some ⟨bm,off,none⟩) s.members.length capb] 68 #[.string nm,.int .i64 wt,.slice X lc.length capx,.slice Y lo.length capy,.slice Z li.length capz];rw [hWW];clear hWW;have K0:=hid k0;have K1:=hid k1;clear k0 k1 e0 e1 e2 e3 e4;refine (Z5r _ _ HSH.out).mono ?_;rintro e w1 ⟨rfl,rfl⟩;cases hnb:nameB nm with
 | false =>
   have HR:=hid (HMN.out hnb);clear hnb;go_wp2;go_ret;exact ⟨Q1b HR.out.symm,HXW.out⟩
 | true =>
   have HNB:=hid hnb;clear hnb;have k0:=K0.out;have c0_2:=k0.cell 2;have c1_0:=K1.out.cell 0;simp only [Go.Tw.gA,Go.Tw.gB,Go.Tw.gC] at c0_2 c1_0;clear k0;go_wp2_with fail
   go_loopw [6] (fun j wr=>∃ m:Nat,m <= i /\ j=.int .i64 m /\ Q8i s.members i m=false /\ Ext W wr) (fun j _=>i - (intOf j).toNat)
   case atStart=>exact ⟨0,Nat.zero_le _,rfl,rfl,Ext.refl _⟩
   case round =>
    obtain ⟨m,hm,rfl,htw,hxr⟩:=hrel;have HTW:=hid htw;have HXR:=hid hxr;replace c0_2:=hxr.cell c0_2;replace c1_0:=hxr.cell c1_0;clear htw
    by_cases hmi:m < i
    . have hck:=(HXW.out.trans hxr).cell (HCC.out m (by omega))
      have hy1:=HYES.out m hmi;have hy2:=HSUC.out m;obtain ⟨x,hx⟩:∃ x,Q1o s.members m=x:=⟨_,rfl⟩;rw [hx] at hck hy1 hy2;obtain ⟨q,hq⟩:∃ q,(x.toList == nm.toList)=q:=⟨_,rfl⟩;have HQ:Hid ((x == nm)=q):=hid (by rw [Go.beq_toListBytes]; exact hq)
      rw [HQ.out] at hy1 hy2;have HY1:=hid hy1;have HY2:=hid hy2;have hmI:(m:Int) < (s.members.length:Int):=by omega
      have hmiI:(m:Int) < (i:Int):=by omega
      clear hx hy1 hy2 hxr;cases q with
      | true =>
        go_light
        go_wp2
        go_quiet (fail)
        all_goals go_wp2
        go_ret;exact ⟨Q1b (HMT.out HNB.out (HY1.out (by trivial))).symm,HXW.out.trans (HXR.out.drewN _)⟩
      | false =>
        go_light
        go_wp2
        go_quiet (fail)
        all_goals go_wp2
        go_roundw
        case rel=>exact ⟨m + 1,by omega,by go_num,by rw [HY2.out,HTW.out]; rfl,HXR.out.drewN _⟩
        case measure=>simp [intOf]; omega
    . have hme:m=i:=by omega
      subst hme;have HTF:Hid (Q3s s.members m=false):=hid (HTW.out);have hmiI:¬ (m:Int) < (m:Int):=by omega
      have c0_1:=hxr.cell (K0.out.cell 1);have k1:=K1.out.ext hxr;have c1_1:=k1.cell 1;have c1_2:=k1.cell 2;have c1_3:=k1.cell 3;have c1_4:=k1.cell 4;simp only [Go.Tw.gA,Go.Tw.gB,Go.Tw.gC] at c0_1 c1_1 c1_2 c1_3 c1_4;have HXX:=hid (HXW.out.trans hxr);have HKR:=hid k1;clear k1 hxr hmi
      by_cases hw:Q0h wt 1 1000=0
      . have hwn:(Q0h wt 1 1000 != 0)=false:=by simp [hw]
        have HWZ:=hid hw;clear hw
        by_cases h1:lc.length=s.ships.length
        . have h1b:((lc.length:Int) != (s.ships.length:Int))=false:=by rw [h1]; simp
          by_cases h2:lo.length=s.ships.length
          . have h2b:((lo.length:Int) != (s.ships.length:Int))=false:=by rw [h2]; simp
            by_cases h3:li.length=s.ships.length
            . have h3b:((li.length:Int) != (s.ships.length:Int))=false:=by rw [h3]; simp
              have hrest:=HMR.out HNB.out HTF.out HWZ.out ⟨h1,h2,h3⟩;obtain ⟨E,hE⟩:∃ E,Q0l [Q0s lc 9,Q0s lo 1024,Q0s li 1024]=E:=⟨_,rfl⟩;rw [hE] at hrest;have HE:Hid (∀ (w':World) (u:Value),Q0e w' u [Q0s lc 9,Q0s lo 1024,Q0s li 1024] -> Calls Tryz.prog 22 #[u] w' fun e w''=>e=.returned (.int .i64 E) /\ w'=w''):=hid (by intro w' u h; rw [<- hE]; exact Z8f _ _ _ h)
              have HRE:=hid hrest;have hdr:=(Ext.refl wr).drew;clear h1 h2 h3 hE hrest;go_wp2_with (go_at_call 87; refine (Q2n _ wt 1 1000).mono ?_; rintro e w' ⟨rfl,rfl⟩);refine Flow.Q1d [.p,.w,.w,.p,.w,.w,.p,.w,.w,.w,.w,.p] [0,1,2,3,4,5,6,7,8,9,10,11] [[],[0],[1],[],[3],[2,4],[],[6],[5,7],[2,5,8],[8,9],[0,1,2,3,4,5,6,7,8,9,10]]
               [.c 0 (.pointer (some ⟨w.heap.size + 1,2,none⟩)),.c 1 (.slice X lc.length capx),.c 2 (.int .i64 (Q0s lc 9)),.c 3 (.pointer (some ⟨w.heap.size + 1,3,none⟩)),.c 4 (.slice Y lo.length capy),.c 5 (.int .i64 (Q0s lo 1024)),.c 6 (.pointer (some ⟨w.heap.size + 1,4,none⟩)),.c 7 (.slice Z li.length capz),.c 8 (.int .i64 (Q0s li 1024)),⟨fun v wz=>Q0e wz (v 9) [Q0s lc 9,Q0s lo 1024,Q0s li 1024],fun _ _ _ hx h=>h.ext hx⟩,.c 10 (.int .i64 E),.c 11 (.int .i64 E)]
               (by kernel_rfl) rfl (by kernel_rfl) ⟨?g0,?g1,?g2,?g3,?g4,?g5,?g6,?g7,?g8,?g9,?g10,?g11,trivial⟩ ?post
              case g0 | g3 | g6=>
               intro v w1 hx;intro bb hbb;subst hbb;refine ⟨_,fun w=>?_,rfl⟩;go_simp
              case g1 | g4 | g7=>
               intro v w1 hx;(repeat intro (zq:v _=_));intro bb hbb;subst hbb;have n0:w1.cell? ⟨w.heap.size + 1,2,none⟩=some (.slice X lc.length capx):=(HKR.out.ext (hdr.trans hx)).cell 2;have n1:w1.cell? ⟨w.heap.size + 1,3,none⟩=some (.slice Y lo.length capy):=(HKR.out.ext (hdr.trans hx)).cell 3;have n2:w1.cell? ⟨w.heap.size + 1,4,none⟩=some (.slice Z li.length capz):=(HKR.out.ext (hdr.trans hx)).cell 4;intro K hK;go_simp;exact hK _ _ (Ext.refl _) rfl
              case g2=>
               intro v w1 hx;(repeat intro (zq:v _=_));intro bb hbb;subst hbb;intro K hK;go_simp;refine Q0d (Q7h w1 _ lc 9 (HXI.out.ext (HXX.out.trans (hdr.trans hx)))) ?_;rintro e w2 ⟨rfl,hx2⟩;exact ⟨_,rfl,hK _ _ hx2 rfl⟩
              case g5=>
               intro v w1 hx;(repeat intro (zq:v _=_));intro bb hbb;subst hbb;intro K hK;go_simp;refine Q0d (Q7h w1 _ lo 1024 (HYI.out.ext (HXX.out.trans (hdr.trans hx)))) ?_;rintro e w2 ⟨rfl,hx2⟩;exact ⟨_,rfl,hK _ _ hx2 rfl⟩
              case g8=>
               intro v w1 hx;(repeat intro (zq:v _=_));intro bb hbb;subst hbb;intro K hK;go_simp;refine Q0d (Q7h w1 _ li 1024 (HZI.out.ext (HXX.out.trans (hdr.trans hx)))) ?_;rintro e w2 ⟨rfl,hx2⟩;exact ⟨_,rfl,hK _ _ hx2 rfl⟩
              case g9=>
               intro v w1 hx;(repeat intro (zq:v _=_));intro bb hbb;subst hbb;intro K hK;go_simp;exact hK _ _ (Ext.box _ _) (Q2i (l:=[Q0s lc 9,Q0s lo 1024,Q0s li 1024]) (by simp))
              case g10=>
               intro v w1 hx (q8:v 8=_) (q9:Q0e w1 (v 9) [Q0s lc 9,Q0s lo 1024,Q0s li 1024]);intro bb hbb;subst hbb;intro K hK;go_simp;refine Q0d (HE.out _ _ q9) ?_;rintro e w2 ⟨rfl,rfl⟩;exact ⟨_,rfl,hK _ _ (Ext.refl _) rfl⟩
              case g11=>
               intro v w1 hx (q0:v 0=_) (q1:v 1=_) (q2:v 2=_) (q3:v 3=_) (q4:v 4=_) (q5:v 5=_) (q6:v 6=_) (q7:v 7=_) (q8:v 8=_) _ (q10:v 10=_);intro bb hbb;subst hbb;refine ⟨_,fun w=>?_,rfl⟩;go_simp
              case post =>
               intro v w1 hx;(iterate 9 intro (zq:v _=_));intro (q9:Q0e w1 (v 9) [Q0s lc 9,Q0s lo 1024,Q0s li 1024]);(iterate 2 intro (zq:v _=_));simp only [Flow.All,Flow.acts,Act.put];go_simp;have HX9:=hid (HXX.out.trans (hdr.trans hx));clear hx hdr q9;(repeat clear zq);go_wp2;go_ret;exact ⟨Q1b HRE.out.symm,HX9.out⟩
            . have h3b:((li.length:Int) != (s.ships.length:Int))=true:=by rw [bne_iff_ne]; omega
              have HR:=hid (HMS.out HNB.out HTF.out HWZ.out fun h=>h3 h.2.2);clear h1 h2 h3;go_wp2_with (go_at_call 87; refine (Q2n _ wt 1 1000).mono ?_; rintro e w' ⟨rfl,rfl⟩);go_ret;exact ⟨Q1b HR.out.symm,HXX.out⟩
          . have h2b:((lo.length:Int) != (s.ships.length:Int))=true:=by rw [bne_iff_ne]; omega
            have HR:=hid (HMS.out HNB.out HTF.out HWZ.out fun h=>h2 h.2.1);clear h1 h2;go_wp2_with (go_at_call 87; refine (Q2n _ wt 1 1000).mono ?_; rintro e w' ⟨rfl,rfl⟩);go_ret;exact ⟨Q1b HR.out.symm,HXX.out⟩
        . have h1b:((lc.length:Int) != (s.ships.length:Int))=true:=by rw [bne_iff_ne]; omega
          have HR:=hid (HMS.out HNB.out HTF.out HWZ.out fun h=>h1 h.1);clear h1;go_wp2_with (go_at_call 87; refine (Q2n _ wt 1 1000).mono ?_; rintro e w' ⟨rfl,rfl⟩);go_ret;exact ⟨Q1b HR.out.symm,HXX.out⟩
      . have hwn:(Q0h wt 1 1000 != 0)=true:=by simp [hw]
        have HR:Hid (s.Q3g m=Q0h wt 1 1000):=hid (by rw [HMW.out HNB.out HTF.out hw,Q6z hw])
        clear hw;go_wp2_with (go_at_call 87; refine (Q2n _ wt 1 1000).mono ?_; rintro e w' ⟨rfl,rfl⟩);go_ret;exact ⟨Q1b HR.out.symm,HXX.out⟩
end Go.Proofs
namespace Go.Proofs
open Go.RowKit Go.Tw Go.Flow
def Q2v (f:Nat -> Int) (n k:Nat):Int:=Q0l (((List.range n).map f).drop k)
theorem Q8k {f:Nat -> Int} {n k:Nat} (hk:k < n):Q2v f n k=if f k=0 then Q2v f n (k + 1) else f k:=by
 unfold Q2v;rw [List.drop_eq_getElem_cons (by simpa using hk),List.getElem_map,List.getElem_range]; rfl
theorem Q8z {f:Nat -> Int} {n k:Nat} (hk:n <= k):Q2v f n k=0:=by
 unfold Q2v;rw [List.drop_eq_nil_of_le (by simpa using hk)]; rfl
theorem X0e:∀ {l:List Int} {m:Int},Q0s l m ≠ 0 -> Q0s l m=3
 | [],m,h=>absurd rfl h
 | x :: l,m,h=>by
   rw [X1r] at h ⊢
   split at h
   . rename_i h0; rw [if_pos h0]; exact X0e h
   . rename_i h0; rw [if_neg h0]; exact Q6z h0
theorem Y6w {s:Q0b} (h:Q0h s.limit 0 1024 ≠ 0):s.err=3:=if_pos h
theorem Z2g {s:Q0b} (h:Q0h s.limit 0 1024=0) (h1:s.ships.length=0):s.err=12:=(if_neg (fun hn=>hn h)).trans (if_pos h1)
theorem Z3a {s:Q0b} (h:Q0h s.limit 0 1024=0) (h1:¬ s.ships.length=0) (h2:6 < s.ships.length):s.err=5:=(if_neg (fun hn=>hn h)).trans ((if_neg h1).trans (if_pos h2))
theorem Y8w {s:Q0b} (h:Q0h s.limit 0 1024=0) (h1:¬ s.ships.length=0) (h2:¬ 6 < s.ships.length) (h3:Q0s s.ships 1000 ≠ 0):s.err=3:=(if_neg (fun hn=>hn h)).trans ((if_neg h1).trans ((if_neg h2).trans (if_pos h3)))
theorem X8n {s:Q0b} (h:Q0h s.limit 0 1024=0) (h1:¬ s.ships.length=0) (h2:¬ 6 < s.ships.length) (h3:Q0s s.ships 1000=0) :
    s.err=if s.members.length=0 then 12 else if 8 < s.members.length then 5 else Q2v s.Q3g s.members.length 0:=(if_neg (fun hn=>hn h)).trans ((if_neg h1).trans ((if_neg h2).trans (if_neg (fun hn=>hn h3))))
theorem Q8s (w:World) (v:Value) (s:Q0b) (hv:Q0f w v s) :
    Calls Tryz.prog 16 #[v] w fun e w'=>e=.returned (.int .i64 s.err) /\ Ext w w':=by
 obtain ⟨a,b,rfl,h2⟩:=hv;obtain ⟨A,capa,rfl,hla,-,-⟩:=h2.ships.opened;obtain ⟨B,capb,rfl,hlb,-,-⟩:=h2.members.opened;have H2:=hid h2;clear h2;have HEL:=hid (Y6w (s:=s));have HEN:=hid (Z2g (s:=s));have HEM:=hid (Z3a (s:=s));have HED:=hid (Y8w (s:=s));have HES:=hid (X8n (s:=s));go_enter Tryz.func16,Tryz.ntmps16;go_wp2_with fail;change Calls _ _ _ (w.alloc (.cells #[.int .i64 s.limit,.slice A s.ships.length capa,.slice B s.members.length capb] 25)) _;obtain ⟨W,hWW,k0,HXW,eW⟩:=Q1u w 25 #[.int .i64 s.limit,.slice A s.ships.length capa,.slice B s.members.length capb];rw [hWW];clear hWW;have K0:=hid k0;have c0_0:=k0.cell 0;have c0_1:=k0.cell 1;have c0_2:=k0.cell 2;simp only [Go.Tw.gA,Go.Tw.gB,Go.Tw.gC] at c0_0 c0_1 c0_2;clear k0;refine (Q2n _ s.limit 0 1024).mono ?_;rintro e w' ⟨rfl,rfl⟩
 by_cases h0:Q0h s.limit 0 1024 ≠ 0
 . have h0b:(Q0h s.limit 0 1024 != 0)=true:=by simp [h0]
   have HR:Hid (s.err=Q0h s.limit 0 1024):=hid (by rw [HEL.out h0,Q6z h0])
   clear h0;go_wp2;go_ret;exact ⟨Q1b HR.out.symm,HXW.out⟩
 replace h0:=Decidable.not_not.1 h0;have h0b:(Q0h s.limit 0 1024 != 0)=false:=by simp [h0]
 have HZ0:=hid h0;clear h0
 by_cases h1:s.ships.length=0
 . have h1b:((s.ships.length:Int) == 0)=true:=by rw [h1]; rfl
   have HR:=hid (HEN.out HZ0.out h1);clear h1;go_wp2;go_ret;exact ⟨Q1b HR.out.symm,HXW.out⟩
 have h1b:((s.ships.length:Int) == 0)=false:=by rw [beq_eq_false_iff_ne]; omega
 have HZ1:=hid h1;clear h1
 by_cases h6:6 < s.ships.length
 . have h6b:(6:Int) < s.ships.length:=by omega
   have HR:=hid (HEM.out HZ0.out HZ1.out h6);clear h6;go_wp2;go_ret;exact ⟨Q1b HR.out.symm,HXW.out⟩
 have h6b:¬ (6:Int) < s.ships.length:=by omega
 have HZ6:=hid h6;clear h6;go_wp2_with fail;refine (Q7h _ _ s.ships 1000 (H2.out.ships.ext HXW.out)).mono ?_;rintro e w1 ⟨rfl,hx1⟩;replace c0_0:=hx1.cell c0_0;replace c0_1:=hx1.cell c0_1;replace c0_2:=hx1.cell c0_2;have HX1:=hid (HXW.out.trans hx1);clear hx1
 by_cases h3:Q0s s.ships 1000 ≠ 0
 . have h3b:(Q0s s.ships 1000 != 0)=true:=by simp [h3]
   have HR:Hid (s.err=Q0s s.ships 1000):=hid (by rw [HED.out HZ0.out HZ1.out HZ6.out h3,X0e h3])
   clear h3;go_wp2;go_ret;exact ⟨Q1b HR.out.symm,HX1.out⟩
 replace h3:=Decidable.not_not.1 h3;have h3b:(Q0s s.ships 1000 != 0)=false:=by simp [h3]
 have HREST:=hid (HES.out HZ0.out HZ1.out HZ6.out h3);clear h3
 by_cases h4:s.members.length=0
 . have h4b:((s.members.length:Int) == 0)=true:=by rw [h4]; rfl
   have HR:Hid (s.err=12):=hid (by rw [HREST.out,if_pos h4])
   clear h4;go_wp2;go_ret;exact ⟨Q1b HR.out.symm,HX1.out⟩
 have h4b:((s.members.length:Int) == 0)=false:=by rw [beq_eq_false_iff_ne]; omega
 by_cases h8:8 < s.members.length
 . have h8b:(8:Int) < s.members.length:=by omega
   have HR:Hid (s.err=5):=hid (by rw [HREST.out,if_neg h4,if_pos h8])
   clear h4 h8;go_wp2;go_ret;exact ⟨Q1b HR.out.symm,HX1.out⟩
 have h8b:¬ (8:Int) < s.members.length:=by omega
 have HE:Hid (s.err=Q2v s.Q3g s.members.length 0):=hid (by rw [HREST.out,if_neg h4,if_neg h8])
 clear h4 h8 HREST HEL HEN HEM HED HES;go_wp2_with fail
 go_loopw [5] (fun i wr=>∃ k:Nat,k <= s.members.length /\ i=.int .i64 k /\ Q2v s.Q3g s.members.length k=Q2v s.Q3g s.members.length 0 /\ Ext w1 wr) (fun i _=>s.members.length - (intOf i).toNat)
 case atStart=>exact ⟨0,Nat.zero_le _,rfl,rfl,Ext.refl _⟩
 case round =>
  obtain ⟨k,hk,rfl,hr,hx⟩:=hrel;have HR:=hid hr;have HX:=hid hx;replace c0_0:=hx.cell c0_0;replace c0_1:=hx.cell c0_1;replace c0_2:=hx.cell c0_2;clear hr hx
  by_cases hlt:k < s.members.length
  . have hltI:(k:Int) < (s.members.length:Int):=by omega
    have HST:=hid (Q8k (f:=s.Q3g) hlt);have HCM:=hid (X7a wr _ s k ⟨_,_,rfl,H2.out.ext (HX1.out.trans HX.out)⟩ hlt)
    go_light
    go_wp2_with fail;refine HCM.out.mono ?_;rintro e w2 ⟨rfl,hx2⟩;have HX2:=hid (HX.out.trans hx2);clear hx2 c0_0 c0_1 c0_2
    by_cases he:s.Q3g k=0
    . have heb:(s.Q3g k != 0)=false:=by simp [he]
      have HZ:=hid he;clear he;go_wp2;go_roundw
      case rel=>exact ⟨k + 1,by omega,by go_num,by rw [<- HR.out,HST.out,if_pos HZ.out],HX2.out⟩
      case measure=>simp [intOf]; omega
    . have heb:(s.Q3g k != 0)=true:=by simp [he]
      have HZ:=hid he;clear he;go_wp2;go_ret;exact ⟨Q1b (by rw [HE.out,<- HR.out,HST.out,if_neg HZ.out]),HX1.out.trans HX2.out⟩
  . have hltI:¬ (k:Int) < (s.members.length:Int):=by omega
    go_wp2;go_ret;exact ⟨Q1b (by rw [HE.out,<- HR.out,Q8z (by omega)]),HX1.out.trans HX.out⟩
end Go.Proofs
namespace Go.Proofs
open Go.RowKit Go.Tw Go.Flow
theorem Tryz.Z6l:(Tryz.prog.info? 29).map (fun i=>(i.zero,i.size,i.bytes))=some (some (.int .i64 0),1,8):=by kernel_rfl
theorem Z7z (f:Int -> Int) (l:List Int) {k:Nat} (hk:k < l.length):(l.map f).take k ++ [f (ix l k)]=(l.map f).take (k + 1):=by
 rw [List.take_succ_eq_append_getElem (by simpa using hk),Q4n hk]
 simp
theorem Q8n (w:World) (v:Value) (l:List Int) (g:Nat) (f:Int -> Int) (hv:Q0e w v l) (hle:l.length <= 4096) (eg:∀ args w,(callFunc g args).run Tryz.prog w=.ok (.enter g args) w)
    (hf:∀ W x,Calls Tryz.prog g #[.int .i64 x] W fun e W'=>e=.returned (.int .i64 (f x)) /\ W=W') :
    Calls Tryz.prog 120 #[v,.func (.func g) #[] #[]] w fun e w'=>∃ x,e=.returned x /\ Q0e w' x (l.map f) /\ Ext w w':=by
 obtain ⟨i0,hi,hz0,hz1,hz2⟩:=info_parts Tryz.Z6l;obtain ⟨A,cap,rfl,hl,hcap,hc⟩:=hv.opened;have HC:=hid hc;have HF:=hid hf;clear hv hc hf;go_enter Tryz.func120,Tryz.ntmps120;go_wp2
 go_loopw [5,10] (fun o i wr=>∃ (k:Nat),k <= l.length /\ i=.int .i64 k /\ Q0m wr w.heap.size 29 (.int .i64) o ((l.map f).take k) /\ Ext w wr) (fun _ i _=>l.length - (intOf i).toNat)
 case atStart=>exact ⟨0,Nat.zero_le _,rfl,Q0m.nil _ _ _ _,Ext.refl _⟩
 case round =>
  obtain ⟨k,hk,rfl,hown,hx⟩:=hrel;have hlen:((l.map f).take k).length=k:=by rw [List.length_take,List.length_map]; omega
  by_cases hlt:k < l.length
  . obtain ⟨b,off,rfl,hcell⟩:=HC.out k hlt
    have HTK:=hid (Z7z f l hlt);obtain ⟨s,hs⟩:∃ s,ix l k=s:=⟨_,rfl⟩;have HFS:=hid (HF.out wr s);rw [hs] at hcell HTK;obtain ⟨y,hy⟩:∃ y,f s=y:=⟨_,rfl⟩;rw [hy] at HFS HTK;replace hcell:=hx.cell hcell;have hll:((l.map f).take k).length <= 4096:=by omega
    clear hs hlen hy;go_wp2_with (first | (refine HFS.out.mono ?_; rintro e w9 ⟨rfl,rfl⟩) | (at_builtin; refine wpList_append_own _ rfl _ _ 191 rfl (w.heap.size) 29 i0 (.int .i64 0) 1 8 Tryz.underlying191 hi hz0 hz1 hz2 rfl (by decide) _ _ _ rfl (World.ownsRow.alloc hown _) ⟨wr.heap.size,0,none⟩ 1 1 [.int .i64 y] rfl rfl ?_ ?_ ?_ ?_ ?_ ?_; exact Q3i _ _ _; (focus (simp [Value.oneCell'])); (focus (unfold maxLen; omega)); (focus omega); (focus (have:=hx.size; simp at this ⊢; omega)); intro v' w1 hown' hgrow _))
    have hx':=Q2e hx hown (Nat.le_refl _) hgrow;go_wp2;go_roundw
    case rel=>exact ⟨k + 1,by omega,by go_num,by rw [<- HTK.out]; exact Q0m.snoc hown',hx'⟩
    case measure=>simp [intOf]; omega
  . have HE:Hid ((l.map f).take k=l.map f):=hid (by rw [List.take_of_length_le (by rw [List.length_map]; omega)])
    rw [HE.out] at hown;have HOWN:=hid hown;clear hown hlen;go_wp2;go_ret;exact ⟨_,rfl,HOWN.out.ints (by simp; omega),hx⟩
theorem Q8t (w:World) (v:Value) (l:List Int) (hv:Q0e w v l) (hle:l.length <= 4096) :
    Calls Tryz.prog 120 #[v,.func (.func 118) #[] #[]] w fun e w'=>∃ x,e=.returned x /\ Q0e w' x (l.map fun x=>Q0h x 0 1024) /\ Ext w w' :=
 Q8n w v l _ _ hv hle (enters_of Tryz.func118 (by kernel_rfl) rfl) (fun W x=>X0a W x)
theorem X9s (w:World) (v:Value) (l:List Int) (hv:Q0e w v l) (hle:l.length <= 4096) :
    Calls Tryz.prog 120 #[v,.func (.func 121) #[] #[]] w fun e w'=>∃ x,e=.returned x /\ Q0e w' x (l.map fun x=>Q0h x 0 1000) /\ Ext w w' :=
 Q8n w v l _ _ hv hle (enters_of Tryz.func121 (by kernel_rfl) rfl) (fun W x=>Y1a W x)
theorem Q9u (w:World) (v:Value) (l:List Int) (hv:Q0e w v l) (hle:l.length <= 4096) :
    Calls Tryz.prog 120 #[v,.func (.func 126) #[] #[]] w fun e w'=>∃ x,e=.returned x /\ Q0e w' x (l.map fun x=>Q0h x 0 9) /\ Ext w w' :=
 Q8n w v l _ _ hv hle (enters_of Tryz.func126 (by kernel_rfl) rfl) (fun W x=>Y1j W x)
theorem Z0j (W:World) (nm s:ByteArray) (c1 c2 c3 c4:Value) (B:Nat) (hB:W.cell? ⟨B,0,none⟩=some (.string s)) :
    Calls Tryz.prog 123 #[.agg #[.string nm,c1,c2,c3,c4],.pointer (some ⟨B,0,none⟩)] W fun e W'=>e=.returned (.bool (nm == s)) /\ Ext W W':=by
 obtain ⟨q,hq⟩:∃ q,(nm.toList == s.toList)=q:=⟨_,rfl⟩;have HQ:Hid ((nm == s)=q):=hid (by rw [Go.beq_toListBytes]; exact hq)
 have hx:=Ext.box W (.cells #[.string nm,c1,c2,c3,c4] 69);have hB2:=hx.cell hB;have k0:=Blk.made W 69 #[.string nm,c1,c2,c3,c4];have c0:=k0.cell 0;simp only [Go.Tw.gA,Go.Tw.gB] at c0;clear hB k0;go_enter Tryz.func123,Tryz.ntmps123;go_wp2;go_ret;exact ⟨Q0w HQ.out.symm,hx⟩
theorem X8w (w:World) (l:List Mem) (n:Nat) (A:Option Addr) (cap B:Nat) (s:ByteArray) (hB:w.cell? ⟨B,0,none⟩=some (.string s)) (hn:n <= 17592186043904)
    (hc:∀ k,k < n -> ∃ b off c1 c2 c3 c4,A=some ⟨b,off,none⟩ /\ w.cell? ⟨b,off + k * 5,none⟩=some (.string (Q1o l k)) /\ w.cell? ⟨b,off + k * 5 + 1,none⟩=some c1 /\ w.cell? ⟨b,off + k * 5 + 2,none⟩=some c2 /\ w.cell? ⟨b,off + k * 5 + 3,none⟩=some c3 /\ w.cell? ⟨b,off + k * 5 + 4,none⟩=some c4) :
    Calls Tryz.prog 172 #[.slice A n cap,.func (.func 123) #[] #[.pointer (some ⟨B,0,none⟩)]] w fun e w'=>∃ r:Int,e=.returned (.int .i64 r) /\ decide (0 <= r)=((List.range n).any fun k=>Q1o l k == s) /\ Ext w w':=by
 have HC:=hid hc;obtain ⟨p,hp⟩:∃ p:Nat -> Bool,(fun k=>Q1o l k == s)=p:=⟨_,rfl⟩
 have HP:Hid (∀ k,(Q1o l k == s)=p k):=hid (fun k=>by rw [<- hp])
 rw [hp];clear hc hp;go_enter Tryz.func172,Tryz.ntmps172;go_wp2
 go_loopw [8] (fun i wr=>∃ k:Nat,k <= n /\ i=.int .i64 k /\ ((List.range n).drop k).any p=(List.range n).any p /\ Ext w wr) (fun i _=>n - (intOf i).toNat)
 case atStart=>exact ⟨0,Nat.zero_le _,rfl,rfl,Ext.refl _⟩
 case round =>
  obtain ⟨k,hk,rfl,hr,hx⟩:=hrel;have HR:=hid hr; clear hr
  by_cases hlt:k < n
  . obtain ⟨b,off,c1,c2,c3,c4,rfl,e0,e1,e2,e3,e4⟩:=HC.out k hlt
    replace e0:=hx.cell e0;replace e1:=hx.cell e1;replace e2:=hx.cell e2;replace e3:=hx.cell e3;replace e4:=hx.cell e4;have hB2:=hx.cell hB;have HST:Hid ((List.range n).any p=(p k || ((List.range n).drop (k + 1)).any p)):=hid (by
     rw [<- HR.out,List.drop_eq_getElem_cons (by simpa using hlt),List.any_cons,List.getElem_range])
    have HPK:=hid (HP.out k);obtain ⟨nm,hnm⟩:∃ x,Q1o l k=x:=⟨_,rfl⟩;rw [hnm] at HPK e0;have HCL:=hid (Z0j wr nm s c1 c2 c3 c4 B hB2);rw [HPK.out] at HCL;obtain ⟨q,hq⟩:∃ q,p k=q:=⟨_,rfl⟩;rw [hq] at HCL HST;clear hq hnm hB2;cases q with
    | true =>
      go_wp2_with (refine HCL.out.mono ?_; rintro e w9 ⟨rfl,hx9⟩);go_ret;exact ⟨k,rfl,by rw [HST.out]; simp,hx.trans hx9⟩
    | false =>
      go_wp2_with (refine HCL.out.mono ?_; rintro e w9 ⟨rfl,hx9⟩);go_roundw
      case rel=>exact ⟨k + 1,by omega,by go_num,by rw [HST.out,Bool.false_or],hx.trans hx9⟩
      case measure=>simp [intOf]; omega
  . go_wp2
    go_ret;exact ⟨-1,rfl,by rw [<- HR.out,List.drop_eq_nil_of_le (by simp; omega)]; rfl,hx⟩
theorem Z3n (w:World) (l:List Mem) (n:Nat) (A:Option Addr) (cap B:Nat) (s:ByteArray) (hB:w.cell? ⟨B,0,none⟩=some (.string s)) (hn:n <= 17592186043904)
    (hc:∀ k,k < n -> ∃ b off c1 c2 c3 c4,A=some ⟨b,off,none⟩ /\ w.cell? ⟨b,off + k * 5,none⟩=some (.string (Q1o l k)) /\ w.cell? ⟨b,off + k * 5 + 1,none⟩=some c1 /\ w.cell? ⟨b,off + k * 5 + 2,none⟩=some c2 /\ w.cell? ⟨b,off + k * 5 + 3,none⟩=some c3 /\ w.cell? ⟨b,off + k * 5 + 4,none⟩=some c4) :
    Calls Tryz.prog 122 #[.slice A n cap,.func (.func 123) #[] #[.pointer (some ⟨B,0,none⟩)]] w fun e w'=>e=.returned (.bool ((List.range n).any fun k=>Q1o l k == s)) /\ Ext w w':=by
 have HI:=hid (X8w w l n A cap B s hB hn hc);obtain ⟨q,hq⟩:∃ q,((List.range n).any fun k=>Q1o l k == s)=q:=⟨_,rfl⟩
 rw [hq] at HI ⊢;clear hc hq hB;go_enter Tryz.func122,Tryz.ntmps122;go_wp2_with (go_at_call 172; refine HI.out.mono ?_; rintro e w' ⟨r,rfl,hr,hx⟩; have HR:=hid hr; clear hr);go_ret;exact ⟨Q0w HR.out,hx⟩
end Go.Proofs
namespace Go.Tw
variable {s:Q0b}
theorem Z9t {i t u:Nat} (h:t < u):ix (hs s i u) t=ix (Q0c s.members i) t:=by
 unfold ix hs; simp [List.getD_eq_getElem?_getD,h]
theorem Z7m (hf:Fine s) {i u:Nat} (hi:i < s.members.length) (hu:u <= s.ships.length):(hs s i u).length=u:=by
 have:=(hf.shaped i hi).1;simp only [hs,List.length_take]; omega
theorem key_eq (hf:Fine s) {i j u v:Nat} (hi:i < s.members.length) (hj:j < s.members.length) (h:Q6q (hs s i u)=Q6q (hs s j v)):hs s i u=hs s j v :=
 Z2m (Q5n (hf.digits i hi) u) (Q5n (hf.digits j hj) v) h
theorem Y3k (hf:Fine s) {i j u v:Nat} (hi:i < s.members.length) (hj:j < s.members.length) (hu:u <= s.ships.length) (hv:v <= s.ships.length) (h:u ≠ v):Q6q (hs s i u) ≠ Q6q (hs s j v):=by
 intro e;have:=congrArg List.length (key_eq hf hi hj e);rw [Z7m hf hi hu,Z7m hf hj hv] at this;exact h this
theorem Y6f (hf:Fine s) {i j u v t:Nat} (hi:i < s.members.length) (hj:j < s.members.length) (hu:t < u) (hv:t < v) (h:ix (Q0c s.members i) t ≠ ix (Q0c s.members j) t):Q6q (hs s i u) ≠ Q6q (hs s j v):=by
 intro e;have:=congrArg (fun l=>ix l t) (key_eq hf hi hj e);simp only [Z9t hu,Z9t hv] at this;exact h this
def Q7x (s:Q0b) (t:Nat) (l:List Runner):Prop:=∀ r ∈ l,∀ q ∈ l,hs s r.member t=hs s q.member t
theorem X0c (hf:Fine s) {t c:Nat} {l:List Runner} (hk:Known s l) (ht:t < s.ships.length) (h:Q7x s t l):Q7x s (t + 1) (Q7r s t c l):=by
 intro r hr q hq;obtain ⟨hr1,hr2⟩:=List.mem_filter.1 hr;obtain ⟨hq1,hq2⟩:=List.mem_filter.1 hq;have e:=h r hr1 q hq1;simp only [beq_iff_eq] at hr2 hq2;have l1:=(hf.shaped _ (hk r hr1)).1;have l2:=(hf.shaped _ (hk q hq1)).1;unfold hs at e ⊢;rw [List.take_add_one,List.take_add_one,e,List.getElem?_eq_getElem (by omega),List.getElem?_eq_getElem (by omega)]
 rw [Q4n (by omega)] at hr2 hq2
 rw [hr2,hq2]
theorem Q3k {t:Nat} {c:Bool} {l:List Runner} (h:Known s l):Known s (moved s t c l):=by
 intro r hr;obtain ⟨q,hq,rfl⟩:=List.mem_map.1 hr;exact h q hq
theorem Q4b {t u:Nat} {c:Bool} {l:List Runner} (h:Q7x s u l):Q7x s u (moved s t c l):=by
 intro r hr q hq;obtain ⟨r',hr',rfl⟩:=List.mem_map.1 hr;obtain ⟨q',hq',rfl⟩:=List.mem_map.1 hq;exact h r' hr' q' hq'
theorem Q7q {t c:Nat} {l:List Runner} (h:Known s l):Known s (Q7r s t c l):=fun r hr=>h r (List.mem_filter.1 hr).1
theorem X7r {f:List Int -> Bool} {k:Nat} {c:Bool}:∀ {l:List Runner},(∀ r ∈ l,f (hs s r.member (s.ships.length - k))=c) ->
    Z4i s f (k + 1) l=Z4i s f k (moved s (s.ships.length - (k + 1)) c l) /\
    Z1e s f (k + 1) l=(if c then Q5x s l else 0) + Z1e s f k (moved s (s.ships.length - (k + 1)) c l) /\
    Z0x s f (k + 1) l=(if c then Q5x s l * ix s.ships (s.ships.length - (k + 1)) else 0) + Z0x s f k (moved s (s.ships.length - (k + 1)) c l)
 | [],_=>by cases c <;> simp [Z4i,Z1e,Z0x,moved,Q5x]
 | r :: l,h=>by
   obtain ⟨h1,h2,h3⟩:=X7r (l:=l) fun r hr=>h r (List.mem_cons_of_mem _ hr)
   have e:=h r List.mem_cons_self;unfold Z4i at h1 ⊢; unfold Z1e at h2 ⊢; unfold Z0x at h3 ⊢;rw [Y5c] at h1 h2 h3 ⊢;simp only [List.map_cons,List.sum_cons,Q5x] at h1 h2 h3 ⊢;rw [h1,h2,h3];simp only [J4m,J3n,J3v,e,mv1];refine ⟨rfl,?_,?_⟩
   . cases c
     . simp
     . simp only [if_true]; rw [Int.mul_add]; omega
   . cases c
     . simp
     . simp only [if_true]; rw [Int.mul_add,Int.add_mul]; omega
def Sound (s:Q0b) (t k:Nat) (l:List Runner) (x:Plan):Prop :=
 Keys s x.closed t l /\ ∀ f,Agr s f x.closed t l -> Z4i s f k l=x.weight /\ Z1e s f k l=x.closings /\ Z0x s f k l=x.delay
def Covers (s:Q0b) (f:List Int -> Bool) (k:Nat) (l:List Runner) (x:Plan):Prop:=Z4i s f k l <= x.weight /\ x.closings <= Z1e s f k l /\ x.delay <= Z0x s f k l
instance lawB:LawfulBEq ByteArray where
 eq_of_beq {a b} h:=by
  by_cases e:a=b
  . exact e
  . rw [X2t e] at h; exact absurd h (by simp)
 rfl {a}:=str_eq rfl
theorem X6n (a b:List ByteArray) (k:ByteArray):(a ++ b).contains k=(a.contains k || b.contains k):=by simp
theorem Q8l {a:List ByteArray} {k:ByteArray} (h:∀ b ∈ a,b ≠ k):a.contains k=false:=by
 rw [<- Bool.not_eq_true,List.contains_iff_mem]; exact fun hk=>h k hk rfl
theorem Y7s (hf:Fine s) {k:Nat} (hk:k + 1 <= s.ships.length) {sub:List Runner -> List Plan}
    (ih:∀ l,Known s l -> Q7x s (s.ships.length - k) l -> ∀ x ∈ sub l,Sound s (s.ships.length - k) k l x) {l:List Runner} (hl:Known s l) (hn:l ≠ [])
    (hs':Q7x s (s.ships.length - k) l) {x:Plan} (hx:x ∈ Q4l s (s.ships.length - (k + 1)) sub l):Sound s (s.ships.length - (k + 1)) (k + 1) l x:=by
 have e1:s.ships.length - (k + 1) + 1=s.ships.length - k:=by omega
 rcases List.mem_append.1 (X8i hx) with h | h
 . obtain ⟨h1,h2⟩:=ih _ (Q3k hl) (Q4b hs') x h
   refine ⟨fun b hb=>?_,fun f hA=>?_⟩
   . obtain ⟨r,hr,u,hu,hu2,e⟩:=h1 b hb
     obtain ⟨q,hq,rfl⟩:=List.mem_map.1 hr;exact ⟨q,hq,u,by omega,hu2,e⟩
   . have hc:∀ r ∈ l,f (hs s r.member (s.ships.length - k))=false:=by
      intro r hr;rw [hA r hr _ (by omega) (by omega)]
      refine Q8l fun b hb=>?_;obtain ⟨q,hq,u,hu,hu2,e⟩:=h1 b hb;rw [e];exact Y3k hf (Q3k hl q hq) (hl r hr) hu2 (by omega) (by omega)
     obtain ⟨v1,v2,v3⟩:=X7r hc;obtain ⟨w1,w2,w3⟩:=h2 f fun r hr u hu hu2=>by
      obtain ⟨q,hq,rfl⟩:=List.mem_map.1 hr;exact hA q hq u (by omega) hu2
     rw [v1,v2,v3,w1,w2,w3];simp
 . obtain ⟨y,hy,rfl⟩:=List.mem_map.1 h
   obtain ⟨h1,h2⟩:=ih _ (Q3k hl) (Q4b hs') y hy;obtain ⟨r0,l0,rfl⟩:∃ r0 l0,l=r0 :: l0:=by cases l with | nil=>exact absurd rfl hn | cons a b=>exact ⟨a,b,rfl⟩
   have hh:Y7f s (s.ships.length - (k + 1)) (r0 :: l0)=Q6q (hs s r0.member (s.ships.length - k)):=by rw [Y7f,hs,e1]
   refine ⟨fun b hb=>?_,fun f hA=>?_⟩
   . rcases List.mem_append.1 (show b ∈ y.closed ++ [_] from hb) with hb | hb
     . obtain ⟨r,hr,u,hu,hu2,e⟩:=h1 b hb
       obtain ⟨q,hq,rfl⟩:=List.mem_map.1 hr;exact ⟨q,hq,u,by omega,hu2,e⟩
     . rw [List.mem_singleton] at hb
       exact ⟨r0,List.mem_cons_self,s.ships.length - k,by omega,by omega,hb.trans hh⟩
   . have hA':∀ r ∈ r0 :: l0,∀ u,s.ships.length - (k + 1) < u -> u <= s.ships.length -> f (hs s r.member u)=(y.closed.contains (Q6q (hs s r.member u)) || [Y7f s (s.ships.length - (k + 1)) (r0 :: l0)].contains (Q6q (hs s r.member u))) :=
      fun r hr u hu hu2=>(hA r hr u hu hu2).trans (X6n _ _ _)
     have hc:∀ r ∈ r0 :: l0,f (hs s r.member (s.ships.length - k))=true:=by
      intro r hr;rw [hA' r hr _ (by omega) (by omega),hh,hs' r hr r0 List.mem_cons_self]
      simp
     obtain ⟨v1,v2,v3⟩:=X7r hc;obtain ⟨w1,w2,w3⟩:=h2 f fun r hr u hu hu2=>by
      obtain ⟨q,hq,rfl⟩:=List.mem_map.1 hr;have:=hA' q hq u (by omega) hu2
      rw [hh,Q8l (a:=[_]) (fun b hb=>by rw [List.mem_singleton] at hb; rw [hb]; exact Y3k hf (hl r0 List.mem_cons_self) (hl q hq) (by omega) hu2 (by omega)),Bool.or_false] at this
      exact this
     rw [v1,v2,v3,w1,w2,w3];simp only [if_true,Y2h];refine ⟨trivial,?_,?_⟩ <;> omega
theorem Y3s {k:Nat} {sub:List Runner -> List Plan} {f:List Int -> Bool}
    (ih:∀ l,Known s l -> Q7x s (s.ships.length - k) l -> ∃ x ∈ sub l,Covers s f k l x) {l:List Runner} (hl:Known s l) (hn:l ≠ [])
    (hs':Q7x s (s.ships.length - k) l):∃ x ∈ Q4l s (s.ships.length - (k + 1)) sub l,Covers s f (k + 1) l x:=by
 obtain ⟨r0,hr0⟩:=List.exists_mem_of_ne_nil l hn;have hc:∀ r ∈ l,f (hs s r.member (s.ships.length - k))=f (hs s r0.member (s.ships.length - k)):=fun r hr=>by rw [hs' r hr r0 hr0]
 obtain ⟨v1,v2,v3⟩:=X7r hc;obtain ⟨x,hx,c1,c2,c3⟩:=ih (moved s (s.ships.length - (k + 1)) (f (hs s r0.member (s.ships.length - k))) l) (Q3k hl) (Q4b hs');cases hb:f (hs s r0.member (s.ships.length - k))
 . rw [hb] at v1 v2 v3 hx c1 c2 c3
   obtain ⟨o,ho,hob⟩:=X2b (l:=sub (moved s (s.ships.length - (k + 1)) false l) ++ (sub (moved s (s.ships.length - (k + 1)) true l)).map (Y2h s (s.ships.length - (k + 1)) l)) (List.mem_append.2 (.inl hx));rw [Q9w] at hob;simp only [Bool.false_eq_true,if_false] at v2 v3;exact ⟨o,ho,by omega,by omega,by omega⟩
 . rw [hb] at v1 v2 v3 hx c1 c2 c3
   obtain ⟨o,ho,hob⟩:=X2b (l:=sub (moved s (s.ships.length - (k + 1)) false l) ++ (sub (moved s (s.ships.length - (k + 1)) true l)).map (Y2h s (s.ships.length - (k + 1)) l)) (List.mem_append.2 (.inr (List.mem_map.2 ⟨x,hx,rfl⟩)));rw [Q9w] at hob;simp only [if_true] at v2 v3;simp only [Y2h] at hob;exact ⟨o,ho,by omega,by omega,by omega⟩
end Go.Tw
