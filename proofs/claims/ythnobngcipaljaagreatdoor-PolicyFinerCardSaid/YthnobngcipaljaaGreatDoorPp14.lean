/- Contract: slices.CompactFunc over histories. Contracts: slices.Clone of a history; histories of the program. Contract: slices.Equal of lists of numbers. -/
import Derived.Test.YthnobngcipaljaaGreatDoorPp13
import Derived.Test.YthnobngcipaljaaGreatDoorPp04
import Derived.Test.YthnobngcipaljaaGreatDoorPp08
set_option maxRecDepth 1000000
set_option maxHeartbeats 64000000
set_option linter.unusedVariables false
set_option linter.unusedSimpArgs false
set_option linter.constructorNameAsVariable false
open Go.Lib (hid)
namespace Go.Proofs
open Go.RowKit Go.Tw Go.Flow
attribute [local go_sem] Oper.semAt_some
def Cpt (W wr:World) (g:Nat) (cur vs:List Value) (ll:List (List Int)) (K k2 kw:Nat):Prop :=
 ∃ cur' vr r,Y6x wr g cur' vr r /\ Kept ll r (K + k2 - 1) /\ r.length=kw /\ cur'.length=cur.length /\ (∀ j,K + k2 <= j -> cur'[j]?=cur[j]?) /\ (cur'[K + k2 - 1]?=cur[K + k2 - 1]?) /\ Sets wr vs ll /\ W.grownBy wr (some g)
theorem Q4f {a w w':World} {row:Option Nat} (h:a.grownBy w row) (hx:Ext w w'):a.grownBy w' row :=
 ⟨hx.os.trans h.os,hx.tape.trans h.tape,hx.output.trans h.output,Nat.le_trans h.size hx.size,fun i hi hr=>(hx.block i (Nat.lt_of_lt_of_le hi h.size)).trans (h.block i hi hr)⟩
theorem Q9a {a w w':World} {g:Nat} (h:a.grownBy w (some g)) (hb:Below 0 w w') (ho:∀ k,k ≠ g -> w'.heap[k]?=w.heap[k]?):a.grownBy w' (some g) :=
 ⟨hb.os.trans h.os,hb.tape.trans h.tape,hb.output.trans h.output,Nat.le_trans h.size hb.size,fun i hi hr=>(ho i (fun e=>hr (by rw [e]))).trans (h.block i hi hr)⟩
theorem Q5m (w:World) (row:Option Nat):w.grownBy w row:=⟨rfl,rfl,rfl,Nat.le_refl _,fun _ _ _=>rfl⟩
theorem Q6u {a w w':World} {row:Option Nat} (h:a.grownBy w row) (k:w.grownBy w' row):a.grownBy w' row :=
 ⟨k.os.trans h.os,k.tape.trans h.tape,k.output.trans h.output,Nat.le_trans h.size k.size,fun i hi hr=>(k.block i (Nat.lt_of_lt_of_le hi h.size) hr).trans (h.block i hi hr)⟩
theorem X0f {w w':World} {vs:List Value} {ll:List (List Int)} {g:Nat} {cs:Array Value} (h:Sets w vs ll) (hb:Blk w g 166 cs) (ho:∀ k,k ≠ g -> w'.heap[k]?=w.heap[k]?):Sets w' vs ll :=
 h.at fun _ _ hv b hbv _=>ho b fun e=>Z2h (by decide) hv hb (by rw [hbv,e])
theorem Cpt.ext {W wr wr':World} {g:Nat} {cur vs:List Value} {ll:List (List Int)} {K k2 kw:Nat} (h:Cpt W wr g cur vs ll K k2 kw) (hx:Ext wr wr'):Cpt W wr' g cur vs ll K k2 kw:=by
 obtain ⟨cur',vr,r,ha,hk,hl,hcl,hj,hj1,hs,hg⟩:=h;exact ⟨cur',vr,r,ha.ext hx,hk,hl,hcl,hj,hj1,hs.ext hx,Q4f hg hx⟩
theorem Cpt.put {W wr w9:World} {g:Nat} {cur cur' vs vr:List Value} {ll r:List (List Int)} {K k2 kw:Nat} (ha:Y6x wr g cur' vr r) (hkp:Kept ll r (K + k2 - 1)) (hrl:r.length=kw) (hcl:cur'.length=cur.length) (hjj:∀ j,K + k2 <= j -> cur'[j]?=cur[j]?) (hss:Sets wr vs ll) (hg:W.grownBy wr (some g))
    (hs:Sorted ll) (hlt:K + k2 < ll.length) (hkw:kw + 1 <= K + k2) (hll:ll.length <= cur.length) (hne:ll.getD (K + k2) [] ≠ ll.getD (K + k2 - 1) []) (hb9:Blk w9 g 166 (cur'.toArray.setIfInBounds kw (vs.getD (K + k2) undef))) (hl:Below 0 wr w9) (ho:∀ k,k ≠ g -> w9.heap[k]?=wr.heap[k]?):Cpt W w9 g cur vs ll K (k2 + 1) (kw + 1):=by
 have e1:K + k2 - 1 + 1=K + k2:=by omega
 have e2:K + (k2 + 1) - 1=K + k2:=by omega
 have hvr:vr.length=kw:=by rw [<- hrl]; exact ha.2.2.1
 refine ⟨cur'.set kw (vs.getD (K + k2) undef),vr ++ [vs.getD (K + k2) undef],r ++ [ll.getD (K + k2) []],⟨?_,?_,?_⟩,?_,by rw [List.length_append,hrl]; rfl,by rw [List.length_set,hcl],fun j hj=>?_,?_,X0f hss ha.1 ho,Q9a hg hl ho⟩
 . rw [<- List.setIfInBounds_toArray]; exact hb9
 . rw [List.length_append,hvr,List.length_singleton,List.take_succ_eq_append_getElem (by rw [List.length_set,hcl]; omega),List.getElem_set_self]
   congr 1
   rw [List.take_set_of_le (Nat.le_refl _)];have:=ha.2.1
   rwa [hvr] at this
 . exact (X0f ha.2.2 ha.1 ho).snoc ((X0f hss ha.1 ho).2 _ hlt).1 (hss.2 _ hlt).2
 . have h:=hkp.snoc hs (by rw [e1]; exact hlt) (by rw [e1]; exact hne)
   rw [e1] at h;rw [e2]; exact h
 . rw [List.getElem?_set_ne (by omega)]; exact hjj j (by omega)
 . rw [e2,List.getElem?_set_ne (by omega)]; exact hjj _ (Nat.le_refl _)
theorem Y6x.cleared {wr w9:World} {g kw:Nat} {cur' vr new:List Value} {r:List (List Int)} (ha:Y6x wr g cur' vr r) (hk:r.length=kw) (hfit:kw + new.length <= cur'.toArray.size) (hb9:Blk w9 g 166 (Q2s cur'.toArray kw new)) (ho:∀ k,k ≠ g -> w9.heap[k]?=wr.heap[k]?):Y6x w9 g (Q2s cur'.toArray kw new).toList vr r:=by
 have hvr:vr.length=kw:=by rw [<- hk]; exact ha.2.2.1
 refine ⟨by rw [Array.toArray_toList]; exact hb9,?_,X0f ha.2.2 ha.1 ho⟩
 have h:=ha.2.1;rw [hvr] at h ⊢;rw [<- h]
 apply List.ext_getElem?
 intro j;rw [List.getElem?_take,List.getElem?_take]
 by_cases hj:j < kw
 . rw [if_pos hj,if_pos hj,Array.getElem?_toList,Q4w _ _ _ _ hfit,if_neg (by omega),List.getElem?_toArray]
 . rw [if_neg hj,if_neg hj]
theorem Y5n (w:World) (g cap:Nat) (cur vs:List Value) (ll:List (List Int)) (h0:0 < ll.length) (hle:ll.length <= 1000) (hcap:ll.length <= cap) (hcl:ll.length <= cur.length) (hs:Sorted ll) (hr:Y6x w g cur vs ll) :
    Calls Tryz.prog 161 #[.slice (some ⟨g,0,none⟩) ll.length cap,.func (.func 162) #[] #[]] w fun e w'=>∃ r,e=.returned (.slice (some ⟨g,0,none⟩) r.length cap) /\ Q2z w' (.slice (some ⟨g,0,none⟩) r.length cap) r /\ Asc r /\ (∀ x,x ∈ r ↔ x ∈ ll) /\ r.length <= ll.length /\ w.grownBy w' (some g):=by
 have HR:=hid hr;have HS:=hid hs;obtain ⟨n,hn⟩:∃ n,ll.length=n:=⟨_,rfl⟩;have HN:=hid hn;have HG0:Hid (w.grownBy w (some g)):=hid ⟨rfl,rfl,rfl,Nat.le_refl _,fun _ _ _=>rfl⟩;rw [hn] at h0 hle hcap hcl ⊢;clear hr hs hn
 by_cases h2:n < 2
 . have h2I:(n:Int) < 2:=by omega
   have HK:Hid (Kept ll ll 0):=hid (by
    have:=Kept.first (ll:=ll) (by rw [HN.out]; exact h0)
    rwa [List.take_of_length_le (by rw [HN.out]; omega)] at this)
   have HE:Hid (n=ll.length):=hid HN.out.symm;clear h2;go_enter Tryz.func161,Tryz.ntmps161;go_wp2;go_ret;have hh:=HK.out.all (by have:=HN.out; omega)
   refine ⟨ll,by rw [HN.out]; rfl,HR.out.reads (by rw [HN.out]; omega) (by rw [HN.out]; exact hcap),hh.1,hh.2,by rw [HN.out]; exact Nat.le_refl _,HG0.out⟩
 have h2I:¬ (n:Int) < 2:=by omega
 go_enter Tryz.func161,Tryz.ntmps161;go_wp2
 go_loopw [5] (fun i wr=>∃ (K J:Nat),J + 1=K /\ K <= n /\ i=.int .i64 K /\ Kept ll (ll.take K) J /\ Ext w wr) (fun i _=>n - (intOf i).toNat)
 case atStart=>exact ⟨1,0,rfl,by omega,rfl,Kept.first (by rw [HN.out]; exact h0),Ext.refl _⟩
 case round =>
  obtain ⟨K,J,hJ,hK,rfl,hkept,hx⟩:=hrel;have HKP:=hid hkept;have HX:=hid hx;have HRR:=hid (HR.out.ext hx);clear hkept
  by_cases hlt:K < n
  . have hKI:(K:Int) < n:=by omega
    have hJI:(J:Int) < n:=by omega
    have hw1:IntKind.i64.wrap ((K:Int) - 1)=(J:Int):=by rw [show (K:Int) - 1=(J:Int) by omega]; exact Q2v _ (by omega) (by omega)
    obtain ⟨cK,iK,-,-⟩:=HRR.out.at (k:=K) (by rw [HN.out]; exact hlt)
    obtain ⟨cJ,iJ,-,-⟩:=HRR.out.at (k:=J) (by rw [HN.out]; omega)
    obtain ⟨lK,hlK⟩:∃ x,ll.getD K []=x:=⟨_,rfl⟩;obtain ⟨lJ,hlJ⟩:∃ x,ll.getD J []=x:=⟨_,rfl⟩;rw [hlK] at iK;rw [hlJ] at iJ;obtain ⟨vK,hvK⟩:∃ x,vs.getD K undef=x:=⟨_,rfl⟩;obtain ⟨vJ,hvJ⟩:∃ x,vs.getD J undef=x:=⟨_,rfl⟩;rw [hvK] at cK iK;rw [hvJ] at cJ iJ;have HIK:=hid iK;have HIJ:=hid iJ;have HLK:=hid hlK;have HLJ:=hid hlJ;obtain ⟨q,hq⟩:∃ q,(X7z lK lJ == 0)=q:=⟨_,rfl⟩;have HQ:=hid hq;have hdr:=(Ext.refl wr).drew;clear hlK hlJ hvK hvJ iK iJ hq;go_wp2;refine Flow.Q1o [.p,.p,.p,.p,.w,.p,.p,.p,.p,.w,.w] [0,1,2,3,4,5,6,7,8,9,10] [[],[],[],[1,2],[3],[],[],[6],[5,7],[8],[0,4,9]]
     [.c 0 (.func (.func 162) #[] #[]),.c 1 (.slice (some ⟨g,0,none⟩) n cap),.c 2 (.int .i64 (K:Int)),.c 3 (.pointer (some ⟨g,K,none⟩)),.c 4 (vK),.c 5 (.slice (some ⟨g,0,none⟩) n cap),.c 6 (.int .i64 (K:Int)),.c 7 (.int .i64 (J:Int)),.c 8 (.pointer (some ⟨g,J,none⟩)),.c 9 (vJ),.c 10 (.bool q)]
     (by kernel_rfl) rfl (by kernel_rfl) ⟨?g0,?g1,?g2,?g3,?g4,?g5,?g6,?g7,?g8,?g9,?g10,trivial⟩ ?post
    case g0 | g1 | g2 | g5 | g6=>
     intro v w1 hx;intro bb hbb;subst hbb;refine ⟨_,fun w=>?_,rfl⟩;go_simp
    case g3 | g7 | g8=>
     intro v w1 hx;(repeat intro (zq:v _=_));intro bb hbb;subst hbb;refine ⟨_,fun w=>?_,rfl⟩;go_simp
    case g4 | g9=>
     intro v w1 hx;(repeat intro (zq:v _=_));intro bb hbb;subst hbb;have cK:=hx.cell cK;have cJ:=hx.cell cJ;intro K hK;go_simp;exact hK _ _ (Ext.refl _) rfl
    case g10=>
     intro v w1 hx;(repeat intro (zq:v _=_));intro bb hbb;subst hbb;have cK:=hx.cell cK;have cJ:=hx.cell cJ;intro L hL;go_simp;refine Q0e (Q9i w1 _ _ lK lJ (HIK.out.ext (hdr.trans hx)) (HIJ.out.ext (hdr.trans hx))) ?_;rintro e w2 ⟨rfl,o,rfl⟩;rw [HQ.out];exact ⟨_,rfl,hL _ _ (Ext.box _ _) rfl⟩
    case post =>
     intro v w1 hx (q0:v 0=_) (q1:v 1=_) (q2:v 2=_) (q3:v 3=_) (q4:v 4=_) (q5:v 5=_) (q6:v 6=_) (q7:v 7=_) (q8:v 8=_) (q9:v 9=_) (q10:v 10=_);simp only [Flow.All,Flow.acts,Act.put];go_simp;have HX1:=hid (HX.out.trans (hdr.trans hx));have HRR1:=hid (HRR.out.ext (hdr.trans hx));clear hx hdr cK cJ q0 q1 q2 q3 q4 q5 q6 q7 q8 q9 q10;obtain ⟨V,rfl⟩:∃ X,X=w1:=⟨_,rfl⟩;cases q with
     | false =>
       have HST:Hid (Kept ll (ll.take (K + 1)) K):=hid (by
        have h:=HKP.out.snoc HS.out (by rw [HN.out]; omega) (by
         rw [hJ,HLK.out,HLJ.out];intro e;have:=HQ.out;rw [(X0k lK lJ).2 e] at this;cases this)
        subst hJ
        rwa [Kept.take_snoc (by rw [HN.out]; omega)] at h)
       go_wp2;go_roundw
       case rel=>exact ⟨K + 1,K,rfl,by omega,by go_num,HST.out,HX1.out⟩
       case measure=>simp [intOf]; omega
     | true =>
       have hsame:ll.getD K []=ll.getD J []:=by
        rw [HLK.out,HLJ.out];exact (X0k lK lJ).1 (by have:=HQ.out; simpa using this)
       have HST:Hid (Cpt V V g cur vs ll K 1 K):=hid ⟨cur,vs.take K,ll.take K,⟨HRR1.out.1,by
           have h1:=HRR1.out.2.1;have h2:=HRR1.out.2.2.1;rw [List.length_take,Nat.min_eq_left (by rw [h2,HN.out]; omega),<- h1,List.take_take,Nat.min_eq_left (by rw [h2,HN.out]; omega)],⟨by rw [List.length_take,List.length_take,HRR1.out.2.2.1],fun i hi=>by
           rw [List.length_take,HN.out] at hi;have h:=HRR1.out.2.2.2 i (by rw [HN.out]; omega)
           have e1:(vs.take K).getD i undef=vs.getD i undef:=by simp [show i < K by omega]
           have e2:(ll.take K).getD i []=ll.getD i []:=by simp [show i < K by omega]
           rw [e1,e2]; exact h⟩⟩,by
           have h:=HKP.out.same (by rw [HN.out]; omega) (by rw [hJ]; exact hsame)
           rw [hJ] at h;rw [show K + 1 - 1=K by omega]; exact h,by rw [List.length_take,HN.out]; omega,rfl,fun _ _=>rfl,rfl,HRR1.out.2.2,⟨rfl,rfl,rfl,Nat.le_refl _,fun _ _ _=>rfl⟩⟩
       have s1:(K:Int) <= (n:Int):=by omega
       have s2:¬ n < K:=by omega
       have s3:¬ cap=K:=by omega
       have s4:¬ cap < K:=by omega
       have s5:¬ cap < n:=by omega
       clear hsame;have HST2:Hid (∀ kw k2 wr',1 <= k2 -> K + k2 < n -> Cpt V wr' g cur vs ll K k2 kw -> X7z (ll.getD (K + k2) []) (ll.getD (K + k2 - 1) [])=0 -> Cpt V wr' g cur vs ll K (k2 + 1) kw):=hid (by
        rintro kw k2 wr' h1 hlt ⟨cur',vr,r,ha,hk,hl,hcl',hj,hj1,hs,hg⟩ he;refine ⟨cur',vr,r,ha,?_,hl,hcl',fun j h=>hj j (by omega),hj _ (by omega),hs,hg⟩
        have h:=hk.same (by rw [HN.out]; omega) (by rw [show K + k2 - 1 + 1=K + k2 by omega]; exact (X0k _ _).1 he)
        rw [show K + k2 - 1 + 1=K + (k2 + 1) - 1 by omega] at h
        exact h)
       go_wp2;obtain ⟨m,hm⟩:∃ m,n - K=m:=⟨_,rfl⟩;obtain ⟨c2,hc2⟩:∃ c2,cap - K=c2:=⟨_,rfl⟩;rw [hm,hc2]
       go_loopw [5,7] (fun kv iv wr=>∃ (kw k2:Nat),1 <= k2 /\ K + k2 <= n /\ kw + 1 <= K + k2 /\ kv=.int .i64 kw /\ iv=.int .i64 k2 /\ Cpt V wr g cur vs ll K k2 kw) (fun _ i _=>m - (intOf i).toNat)
       case atStart=>exact ⟨K,1,Nat.le_refl _,by omega,by omega,rfl,rfl,HST.out⟩
       case round =>
        obtain ⟨kw,k2,h1,hkn,hkw,rfl,rfl,hcpt⟩:=hrel;have HC:=hid hcpt;clear hcpt
        by_cases hlt2:k2 < m
        . have hlt2I:(k2:Int) < m:=by omega
          obtain ⟨j2,hj2⟩:∃ j2,j2 + 1=k2:=⟨k2 - 1,by omega⟩
          have hw2:IntKind.i64.wrap ((k2:Int) - 1)=(j2:Int):=by rw [show (k2:Int) - 1=(j2:Int) by omega]; exact Q2v _ (by omega) (by omega)
          have hj2I:(j2:Int) < m:=by omega
          obtain ⟨cur',vr,r,ha,hkp,hrl,hcl',hjj,hj1,hss,hg⟩:=HC.out;have hat:=HRR1.out;have cA:wr.cell? ⟨g,K + k2,none⟩=some (vs.getD (K + k2) undef):=by
           have h:=(hat.at (k:=K + k2) (by rw [HN.out]; omega)).1
           rw [hat.1.cell,List.getElem?_toArray] at h;rw [ha.1.cell,List.getElem?_toArray,hjj _ (Nat.le_refl _)]; exact h
          have cB:wr.cell? ⟨g,K + j2,none⟩=some (vs.getD (K + j2) undef):=by
           have h:=(hat.at (k:=K + j2) (by rw [HN.out]; omega)).1
           rw [hat.1.cell,List.getElem?_toArray] at h;rw [show K + k2 - 1=K + j2 by omega] at hj1
           rw [ha.1.cell,List.getElem?_toArray,hj1]; exact h
          have iA:=(hss.2 (K + k2) (by rw [HN.out]; omega)).1.ints (by have:=(hss.2 (K + k2) (by rw [HN.out]; omega)).2; omega)
          have iB:=(hss.2 (K + j2) (by rw [HN.out]; omega)).1.ints (by have:=(hss.2 (K + j2) (by rw [HN.out]; omega)).2; omega)
          have hOA:=hss.2 (K + k2) (by rw [HN.out]; omega)
          have hE2:=HST2.out kw k2 wr h1 (by omega) HC.out
          rw [show K + k2 - 1=K + j2 by omega] at hE2
          obtain ⟨lA,hlA⟩:∃ x,ll.getD (K + k2) []=x:=⟨_,rfl⟩;obtain ⟨lB,hlB⟩:∃ x,ll.getD (K + j2) []=x:=⟨_,rfl⟩;obtain ⟨vA,hvA⟩:∃ x,vs.getD (K + k2) undef=x:=⟨_,rfl⟩;obtain ⟨vB,hvB⟩:∃ x,vs.getD (K + j2) undef=x:=⟨_,rfl⟩;rw [hlA,hvA] at iA hOA;rw [hlB,hvB] at iB;rw [hvA] at cA;rw [hvB] at cB;rw [hlA,hlB] at hE2;have HIA:=hid iA;have HIB:=hid iB;have HLA:=hid hlA;have HLB:=hid hlB;have HVA:=hid hvA;have HOA:=hid hOA;have HHA:=hid ha;have HKK:=hid hkp;have HRL:=hid hrl;have HCL:=hid hcl';have HJJ:=hid hjj;have HSS:=hid hss;have HG:=hid hg;have HE2:=hid hE2;obtain ⟨q,hq⟩:∃ q,(X7z lA lB == 0)=q:=⟨_,rfl⟩;have HQ:=hid hq;have hdr:=(Ext.refl wr).drew;clear hlA hlB hvA hvB iA iB hq hat hOA ha hkp hrl hcl' hjj hj1 hss hg hE2 HC
          go_light
          go_wp2;refine Flow.Q1o [.p,.p,.p,.p,.w,.p,.p,.p,.p,.w,.w,.p] [0,1,2,3,4,5,6,7,8,9,10,11] [[],[],[],[1,2],[3],[],[],[6],[5,7],[8],[0,4,9],[10]]
           [.c 0 (.func (.func 162) #[] #[]),.c 1 (.slice (some ⟨g,K,none⟩) m c2),.c 2 (.int .i64 (k2:Int)),.c 3 (.pointer (some ⟨g,K + k2,none⟩)),.c 4 (vA),.c 5 (.slice (some ⟨g,K,none⟩) m c2),.c 6 (.int .i64 (k2:Int)),.c 7 (.int .i64 (j2:Int)),.c 8 (.pointer (some ⟨g,K + j2,none⟩)),.c 9 (vB),.c 10 (.bool q),.c 11 (.bool (!q))]
           (by kernel_rfl) rfl (by kernel_rfl) ⟨?g0,?g1,?g2,?g3,?g4,?g5,?g6,?g7,?g8,?g9,?g10,?g11,trivial⟩ ?post
          case g0 | g1 | g2 | g5 | g6=>
           intro v w1 hx;intro bb hbb;subst hbb;refine ⟨_,fun w=>?_,rfl⟩;go_simp
          case g3 | g7 | g8 | g11=>
           intro v w1 hx;(repeat intro (zq:v _=_));intro bb hbb;subst hbb;refine ⟨_,fun w=>?_,rfl⟩;go_simp
          case g4 | g9=>
           intro v w1 hx;(repeat intro (zq:v _=_));intro bb hbb;subst hbb;have cA:=hx.cell cA;have cB:=hx.cell cB;intro K hK;go_simp;exact hK _ _ (Ext.refl _) rfl
          case g10=>
           intro v w1 hx;(repeat intro (zq:v _=_));intro bb hbb;subst hbb;have cA:=hx.cell cA;have cB:=hx.cell cB;intro L hL;go_simp;refine Q0e (Q9i w1 _ _ lA lB (HIA.out.ext (hdr.trans hx)) (HIB.out.ext (hdr.trans hx))) ?_;rintro e w2 ⟨rfl,o,rfl⟩;rw [HQ.out];exact ⟨_,rfl,hL _ _ (Ext.box _ _) rfl⟩
          case post =>
           intro v w1 hx;(iterate 12 intro (zq:v _=_));simp only [Flow.All,Flow.acts,Act.put];go_simp;have HXV:=hid (hdr.trans hx);have HHA1:=hid (HHA.out.ext HXV.out);have HSS1:=hid (HSS.out.ext HXV.out);have HG1:=hid (Q4f HG.out HXV.out);replace cA:=HXV.out.cell (show wr.cell? ⟨g,K + k2,none⟩=some vA from cA)
           clear hx hdr cB;(repeat clear zq);obtain ⟨Y,rfl⟩:∃ X,X=w1:=⟨_,rfl⟩;cases q with
           | true =>
             have HE3:=hid ((HE2.out (by have:=HQ.out; simpa using this)).ext HXV.out)
             clear cA;go_wp2;go_roundw
             case rel=>exact ⟨kw,k2 + 1,by omega,by omega,by omega,rfl,by go_num,HE3.out⟩
             case measure=>simp [intOf]; omega
           | false =>
             have hkwI:(kw:Int) < n:=by omega
             have hone:=(HOA.out.1.ints (by have:=HOA.out.2; omega)).one
             have hcel:=(HOA.out.1.ints (by have:=HOA.out.2; omega)).cells
             have HONE:Hid (vA.oneCell'=true):=hid hone;have HCEL:=hid hcel;have HKC:Hid (kw < cur'.toArray.size):=hid (by rw [List.size_toArray,HCL.out]; omega)
             have HNE:Hid (ll.getD (K + k2) [] ≠ ll.getD (K + k2 - 1) []):=hid (by
              rw [show K + k2 - 1=K + j2 by omega,HLA.out,HLB.out]
              intro e;have:=HQ.out;rw [(X0k lA lB).2 e] at this;cases this)
             clear hone hcel;go_wp2_with (refine X1z rfl _ _ 166 rfl Tryz.Z6e rfl rfl HCEL.out HONE.out HHA1.out.1 HKC.out ?_; intro w9 hb9 hl9 ho9);go_roundw
             case rel=>exact ⟨kw + 1,k2 + 1,by omega,by omega,by omega,by go_num,by go_num,Cpt.put HHA1.out HKK.out HRL.out HCL.out HJJ.out HSS1.out HG1.out HS.out (by rw [HN.out]; omega) hkw (by rw [HN.out]; exact hcl) HNE.out (by rw [HVA.out]; exact hb9) (hl9 0 (Nat.zero_le _)) ho9⟩
             case measure=>simp [intOf]; omega
        . have hmk:¬ (k2:Int) < m:=by omega
          obtain ⟨cur',vr,r,ha,hkp,hrl,hcl',hjj,hj1,hss,hg⟩:=HC.out;have t1:(kw:Int) <= (n:Int):=by omega
          have t2:¬ n < kw:=by omega
          have t3:¬ cap=kw:=by omega
          have t4:¬ cap < kw:=by omega
          have t5:¬ cap < n:=by omega
          have HHA:=hid ha;have HG:=hid hg;have HRL:=hid hrl;have HALL:=hid (hkp.all (by rw [HN.out]; omega))
          have HFIT:Hid (kw + (Builtin.zeroCells (Value.slice none 0 0).cells (n - kw)).size <= cur'.toArray.size):=hid (by
           rw [<- Array.length_toList,Q8j,List.length_replicate,List.size_toArray,hcl']; omega)
          have HZ1:Hid (∀ v ∈ (Builtin.zeroCells (Value.slice none 0 0).cells (n - kw)).toList,v.oneCell'=true):=hid (by
           rw [Q8j]; intro v hv; rw [List.eq_of_mem_replicate hv]; rfl)
          clear ha hkp hrl hcl' hjj hj1 hss hg HC;go_wp2_with (refine Q9l rfl _ 168 166 rfl Tryz.underlying168 (show 0 < n - kw by omega) rfl HHA.out.1 _ Tryz.Z6c HZ1.out HFIT.out ?_; intro w9 hb9 hl9 ho9)
          go_ret;have hh:=HHA.out.cleared HRL.out (by rw [Array.length_toList]; exact HFIT.out) hb9 ho9
          refine ⟨r,by rw [HRL.out]; rfl,hh.reads (by rw [HRL.out]; omega) (by rw [HRL.out]; omega),HALL.out.1,HALL.out.2,by rw [HRL.out]; omega,?_⟩
          exact Q9a (Q6u (Q4f (Q5m w (some g)) HX1.out) HG.out) (hl9 0 (Nat.zero_le _)) ho9
  . have HKF:Hid (Kept ll ll J):=hid (by
     have:=HKP.out
     rwa [List.take_of_length_le (by rw [HN.out]; omega)] at this)
    go_wp2;go_ret;have hh:=HKF.out.all (by have:=HN.out; omega)
    exact ⟨ll,by rw [HN.out]; rfl,HRR.out.reads (by rw [HN.out]; omega) (by rw [HN.out]; exact hcap),hh.1,hh.2,by rw [HN.out]; exact Nat.le_refl _,Q4f HG0.out HX.out⟩
end Go.Proofs
namespace Go.Proofs
open Go.RowKit Go.Tw Go.Flow
def X9n (l:List Int) (k:Nat):List (List Int):=(List.range k).map fun t=>l.take (t + 1)
theorem Y9d (l:List Int) (k:Nat):X9n l (k + 1)=X9n l k ++ [l.take (k + 1)]:=by unfold X9n; rw [List.range_succ,List.map_append]; rfl
theorem Y2i (l:List Int) (k:Nat):(X9n l k).length=k:=by unfold X9n; simp
def X9m (s:Q0b) (i:Nat):List (List Int):=(s.members.take i).flatMap fun m=>X9n m.classes m.classes.length
theorem X8s (s:Q0b) {i:Nat} (hi:i < s.members.length):X9m s (i + 1)=X9m s i ++ X9n (Q0c s.members i) (Q0c s.members i).length:=by
 unfold X9m Q0c;rw [List.take_succ_eq_append_getElem hi,List.flatMap_append,Q0v _ hi]; simp
theorem Z3p (s:Q0b):X9m s s.members.length=s.X5p:=by unfold X9m; rw [List.take_length]; rfl
theorem X5z {s:Q0b} (hS:Q1b s):∀ i,i <= s.members.length -> (X9m s i).length=i * s.ships.length
 | 0,_=>by simp [X9m]
 | i + 1,h=>by
   rw [X8s s (by omega),List.length_append,X5z hS i (by omega),Y2i,(hS.shaped i (by omega)).1,Nat.add_mul,Nat.one_mul]
theorem Y2r (w:World) (a:Addr) (n cap:Nat):(binOp .eql 166 (.slice (some a) n cap) (.slice none 0 0)).run Tryz.prog w=.ok (.bool false) w:=by kernel_rfl
attribute [local go_sem ↓] Y2r
theorem Y8o (w:World) (a:Addr) (n cap:Nat) (l:List Int) (hv:Q0d w (.slice (some a) n cap) l) (hn:n=l.length) (hle:l.length <= 4096) :
    Calls Tryz.prog 158 #[.slice (some a) n cap] w fun e w'=>∃ u,e=.returned u /\ Q0q w' w.heap.size 3 (.int .i64) u l /\ Ext w w':=by
 obtain ⟨i0,hi,hz0,hz1,hz2⟩:=info_parts Tryz.info3;subst hn;obtain ⟨A,cap',he,hl,hcap,hc⟩:=hv.opened;injection he with e1 _ e3;subst e1 e3;have hx:=Ext.box w (.cells #[] 3);have hown:Q0q (w.alloc (.cells #[] 3)) w.heap.size 3 (Value.int .i64) (.slice (some ⟨w.heap.size,0,none⟩) 0 0) []:=World.ownsRow_made w #[] 0 (Nat.le_refl _) (by unfold maxLen; omega) rfl
 have HSRC:Hid (∀ j u,(l.map (Value.int .i64))[j]?=some u -> (w.alloc (.cells #[] 3)).cell? (a.add j)=some u):=hid (by
  intro j u hj;rw [List.getElem?_map] at hj;obtain ⟨y,hy,rfl⟩:=Option.map_eq_some_iff.1 hj;obtain ⟨hjl,rfl⟩:=List.getElem?_eq_some_iff.1 hy;obtain ⟨b,off,he,hcell⟩:=hc j hjl;cases he;rw [addr_add,hx.cell hcell,Q4s hjl])
 have HONE:Hid (∀ u ∈ l.map (Value.int .i64),u.oneCell'=true):=hid (by intro u hu; obtain ⟨y,_,rfl⟩:=List.mem_map.1 hu; rfl)
 have HL2:Hid ((l.map (Value.int .i64)).length=l.length * 1):=hid (by simp)
 clear hv hc;go_enter Tryz.func158,Tryz.ntmps158;go_wp2_with (at_builtin; refine wpList_append_own _ rfl _ _ 166 rfl (w.heap.size) 3 i0 (.int .i64 0) 1 8 Tryz.underlying166 hi hz0 hz1 hz2 rfl (by decide) _ _ _ rfl hown a l.length cap (l.map (Value.int .i64)) rfl HL2.out HSRC.out HONE.out ?_ ?_ ?_ ?_; (focus (unfold maxLen; simp; omega)); (focus (simp; omega)); (focus (simp)); intro v' w4 hown' hgrow _; refine halted ?_)
 have hx4:Ext w w4:=Below.trans hx (below_grown hown hgrow (Nat.le_refl _) hx.size);have hown2:Q0q w4 w.heap.size 3 (.int .i64) v' l:=by
  unfold Q0q;rw [show l.length=0 + l.length from (Nat.zero_add _).symm]
  exact hown'
 clear hown' hgrow hown hx;unfold Q1i;go_wp2;go_ret;exact ⟨_,rfl,hown2,hx4⟩
theorem Tryz.Z5f:(Tryz.prog.info? 166).map (fun i=>(i.zero,i.size,i.bytes))=some (some (.slice none 0 0),1,24):=by kernel_rfl
theorem Y5r {W W':World} {base:Nat} {v:Value} {vs us:List Value} {ll:List (List Int)} (h:Q0q W base 166 idV v us) (hs:Sets W vs ll) (hg:W.grownBy W' v.ownBlock):Sets W' vs ll:=by
 refine hs.at fun u l hu b hb hbl=>hg.block b hbl fun e=>?_;obtain ⟨h1,h2⟩:=h
 rcases h2 with ⟨rfl,_⟩ | ⟨g,cap,cur,rfl,hbg,hgc,r⟩
 . cases e
 . have:b=g:=by simpa [Value.ownBlock] using e
   subst this;exact X9b hu hgc hb
theorem Q5l {α:Type} {W W':World} {base:Nat} {e:TypeId} {enc:α -> Value} {v:Value} {l:List α} {g:Nat} {T:TypeId} {cs:Array Value} (hb:Blk W g T cs) (h:Q0q W base e enc v l) (hT:T ≠ e) (hg:W.grownBy W' v.ownBlock):Blk W' g T cs:=by
 have hb2:=hb;unfold Blk at hb ⊢;refine (hg.block g (Array.getElem?_eq_some_iff.1 hb).1 fun e'=>?_).trans hb;obtain ⟨h1,h2⟩:=h
 rcases h2 with ⟨rfl,_⟩ | ⟨g',cap,cur,rfl,hbg,hgc,r⟩
 . cases e'
 . have:g=g':=by simpa [Value.ownBlock] using e'
   subst this;rw [hb] at hgc;injection hgc with h;injection h with _ h;exact hT h
theorem Q6y (w:World) (v:Value) (s:Q0b) (hv:Q0h w v s) (hS:Q1b s) :
    Calls Tryz.prog 99 #[v] w fun e w'=>∃ x,e=.returned x /\ Q2z w' x s.hist /\ Ext w w':=by
 obtain ⟨i0,hi,hz0,hz1,hz2⟩:=info_parts Tryz.Z5f;have h8:=hS.some;have h6:=hS.tides;have HS:=hid hS;obtain ⟨a,b,rfl,h2⟩:=hv;obtain ⟨A,capa,rfl,-,-,-⟩:=h2.ships.opened;obtain ⟨B,capb,rfl,-,-,-⟩:=h2.members.opened;have H2:=hid h2;clear h2 hS;go_enter Tryz.func99,Tryz.ntmps99;go_wp2_with fail;change Code.wp _ _ _ _ (w.alloc (.cells #[.int .i64 s.limit,.slice A s.ships.length capa,.slice B s.members.length capb] 34));obtain ⟨W,hWW,k0,HXW,eW⟩:=Q1t w 34 #[.int .i64 s.limit,.slice A s.ships.length capa,.slice B s.members.length capb];rw [hWW];clear hWW;have K0:=hid k0;have c0_2:=k0.cell 2;simp only [Go.Tw.gA,Go.Tw.gB,Go.Tw.gC] at c0_2;clear k0;go_wp2;clear c0_2
 go_loopw [3,10] (fun o iv wr=>∃ (i:Nat) (vs:List Value),i <= s.members.length /\ iv=.int .i64 i /\ Q0q wr W.heap.size 166 idV o vs /\ Sets wr vs (X9m s i) /\ Ext W wr) (fun _ i _=>s.members.length - (intOf i).toNat)
 case atStart=>exact ⟨0,[],Nat.zero_le _,rfl,Q0q.nil _ _ _ _,Sets.nil _,Ext.refl _⟩
 case round =>
  obtain ⟨i,vs,him,rfl,hown,hsets,hxr⟩:=hrel;have HXR:=hid hxr;have HOW:=hid hown;have HSE:=hid hsets;clear hown hsets
  by_cases hlt:i < s.members.length
  . have H3:=H2.out.ext (HXW.out.trans hxr)
    have H4:=H2.out.ext HXW.out;obtain ⟨_,_,hB,_,_,hc⟩:=H3.members.opened;cases hB;obtain ⟨bm,off,x,y,z,rfl,hbm,e0,e1,e2,e3,e4,hx,hy,hz,hsh⟩:=hc i hlt;have hIW:Q0d W x (Q0c s.members i):=by
     obtain ⟨_,_,hB',_,_,hc'⟩:=H4.members.opened;cases hB';obtain ⟨bm',off',x',y',z',hA',_,f0,f1,f2,f3,f4,hx',_⟩:=hc' i hlt;cases hA';have:=hxr.cell f2;rw [e2] at this;cases this;exact hx'
    have HIW:=hid hIW;obtain ⟨X,capx,rfl,-,hcapx,hcx⟩:=hx.opened;obtain ⟨Y,capy,rfl,-,-,-⟩:=hy.opened;obtain ⟨Z,capz,rfl,-,-,-⟩:=hz.opened;have hT:=(HS.out.shaped i hlt).1;have HRT:=hid (X8s s hlt);have HRL:=hid (X5z HS.out i him);obtain ⟨nm,hnm⟩:∃ x,Q1h s.members i=x:=⟨_,rfl⟩;obtain ⟨wt,hwt⟩:∃ x,Q0i s.members i=x:=⟨_,rfl⟩;obtain ⟨lc,hlc⟩:∃ x,Q0c s.members i=x:=⟨_,rfl⟩;obtain ⟨lo,hlo⟩:∃ x,Q0t s.members i=x:=⟨_,rfl⟩;obtain ⟨li,hli⟩:∃ x,Q0y s.members i=x:=⟨_,rfl⟩;rw [hnm] at e0;rw [hwt] at e1;rw [hlc] at e2 HIW HRT hT hcapx hcx;rw [hlo] at e3;rw [hli] at e4;have hiI:(i:Int) < s.members.length:=by omega
    have hlc0:0 < lc.length:=by omega
    obtain ⟨bX,oX,hX,-⟩:=hcx 0 hlc0;subst hX;have hbox:=Ext.box wr (.cells #[.string nm,.int .i64 wt,.slice (some ⟨bX,oX,none⟩) lc.length capx,.slice Y lo.length capy,.slice Z li.length capz] 69);have K3:=Blk.made wr 69 #[.string nm,.int .i64 wt,.slice (some ⟨bX,oX,none⟩) lc.length capx,.slice Y lo.length capy,.slice Z li.length capz];have d2:=K3.cell 2;simp only [Go.Tw.gA,Go.Tw.gB,Go.Tw.gC] at d2;obtain ⟨T,hTT⟩:∃ T,s.ships.length=T:=⟨_,rfl⟩;have HTT:=hid hTT;have HXB:=hid hbox;have HOB:=hid (HOW.out.below hbox);have HSB:=hid (HSE.out.ext hbox);have HK3:=hid K3;rw [hTT] at hT HRL;have HT:=hid hT;clear hc H3 H4 hIW hx hy hz hsh hnm hwt hlc hlo hli hbm hbox K3 hcx hT hTT
    go_light
    go_wp2;obtain ⟨V,hV⟩:∃ V,wr.alloc (.cells #[.string nm,.int .i64 wt,.slice (some ⟨bX,oX,none⟩) lc.length capx,.slice Y lo.length capy,.slice Z li.length capz] 69)=V:=⟨_,rfl⟩;obtain ⟨gb,hgb⟩:∃ x,wr.heap.size=x:=⟨_,rfl⟩;rw [hV] at HXB HOB HSB HK3 ⊢;rw [hgb] at HK3 ⊢;clear hV hgb d2 e0 e1 e2 e3 e4;have HXV:=hid (hxr.trans HXB.out);clear hxr
    go_loopw [3,17] (fun o tv wr=>∃ (t:Nat) (vs:List Value),t <= lc.length /\ tv=.int .i64 t /\ Q0q wr W.heap.size 166 idV o vs /\ Sets wr vs (X9m s i ++ X9n lc t) /\ Blk wr gb 69 #[.string nm,.int .i64 wt,.slice (some ⟨bX,oX,none⟩) lc.length capx,.slice Y lo.length capy,.slice Z li.length capz] /\ Ext W wr) (fun _ t _=>lc.length - (intOf t).toNat)
    case atStart=>exact ⟨0,vs,Nat.zero_le _,rfl,HOB.out,by rw [show X9n lc 0=[] from rfl,List.append_nil]; exact HSB.out,HK3.out,HXV.out⟩
    case round =>
     obtain ⟨t,vs,htl,rfl,hown,hsets,hbk,hxw⟩:=hrel;have hvl:vs.length <= 4096:=by
      have h1:=hsets.1;have h2:=HRL.out;rw [List.length_append,Y2i,h2] at h1;have h3:i * T <= 8 * 6:=Nat.mul_le_mul (by omega) (by have:=HTT.out; omega)
      have:=HT.out;have:=HTT.out;omega
     by_cases htl2:t < lc.length
     . have hlc6:lc.length <= 6:=by have:=HT.out; have:=HTT.out; omega
       have d2:=hbk.cell 2;simp only [Go.Tw.gA,Go.Tw.gB,Go.Tw.gC] at d2;have HSUC:=hid (Y9d lc t);have HPRE:=hid (X6b (HIW.out.ext hxw) (show t + 1 <= lc.length by omega))
       have HPL:Hid ((lc.take (t + 1)).length=t + 1):=hid (by rw [List.length_take]; omega)
       obtain ⟨lp,hlp⟩:∃ x,lc.take (t + 1)=x:=⟨_,rfl⟩;rw [hlp] at HSUC HPRE HPL;have hkcI:(t:Int) + 1 <= (capx:Int):=by omega
       have hkc1:¬ ((0:Int) <= (t:Int) + 1 -> (capx:Int) < (t:Int) + 1):=by omega
       have hkc2:¬ capx=0:=by omega
       have hkc4:¬ (t:Int) + 1 < 0:=by omega
       have hkc3:((t:Int) + 1).toNat=t + 1:=by omega
       have hwk:IntKind.i64.wrap ((t:Int) + 1)=(t:Int) + 1:=Q2v _ (by omega) (by omega)
       have htI:(t:Int) < lc.length:=by omega
       have HO:=hid hown;have HSE2:=hid hsets;have HBK:=hid hbk;clear hown hsets hbk hlp
       go_light
       go_wp2_with (first | (go_at_call 158; refine (Y8o _ _ _ _ lp HPRE.out HPL.out.symm (by rw [HPL.out]; omega)).mono ?_; rintro e w5 ⟨u,rfl,hu,hx5⟩; obtain ⟨bu,cu,hue,-⟩:=hu.shape; rw [HPL.out] at hue; subst hue; have HU:=hid hu; have hown:=HO.out.below hx5; have hx6:=hxw.trans hx5; have HX5:=hid hx5; clear hu) | (at_builtin; refine wpList_append_own _ rfl _ _ 168 rfl (W.heap.size) 166 i0 (.slice none 0 0) 1 24 Tryz.underlying168 hi hz0 hz1 hz2 rfl (by decide) _ _ _ rfl (World.ownsRow.alloc hown _) ⟨w5.heap.size,0,none⟩ 1 1 [.slice bu (t + 1) cu] rfl rfl ?_ ?_ ?_ ?_ ?_ ?_; exact Q4p _ _ _; (focus (simp [Value.oneCell'])); (focus (unfold maxLen; omega)); (focus omega); (focus (have:=hx6.size; simp at this ⊢; omega)); intro v' w1 hown' hgrow _))
       have hx':=Q2w hx6 hown (Nat.le_refl _) hgrow;have hbx:=Ext.box w5 (.cells #[.slice bu (t + 1) cu] 166);have hs5:=Y5r (hown.below hbx) (((HSE2.out.ext HX5.out).snoc (HU.out.weaken (Nat.zero_le _)) (by rw [HPL.out]; omega)).ext hbx) hgrow
       have hb5:=Q5l ((HBK.out.ext HX5.out).ext hbx) (hown.below hbx) (by decide) hgrow
       have HS5:=hid hs5;have HB5:=hid hb5;clear hs5 hb5;go_roundw
       case rel=>exact ⟨t + 1,vs ++ [.slice bu (t + 1) cu],by omega,by go_num,Q0q.snoc (x:=Value.slice bu (t + 1) cu) hown',by rw [HSUC.out,<- List.append_assoc]; exact HS5.out,HB5.out,hx'⟩
       case measure=>simp [intOf]; omega
     . have hte:t=lc.length:=by omega
       subst hte;have HO:=hid hown;have HSE2:=hid hsets;clear hown hsets hbk;go_wp2;go_roundw
       case rel=>exact ⟨i + 1,vs,by omega,by go_num,HO.out,by rw [HRT.out]; exact HSE2.out,hxw⟩
       case measure=>simp [intOf]; omega
  . have hie:i=s.members.length:=by omega
    subst hie;have HRA:=hid (Z3p s);have hln:=X5z HS.out _ (Nat.le_refl _);have hvl:vs.length=s.members.length * s.ships.length:=by rw [HSE.out.1,hln]
    have hv1:1 <= s.members.length * s.ships.length:=Nat.mul_le_mul h8.1 h6.1;have hv2:s.members.length * s.ships.length <= 8 * 6:=Nat.mul_le_mul h8.2 h6.2;obtain ⟨N,hN⟩:∃ N,s.members.length * s.ships.length=N:=⟨_,rfl⟩;rw [hN] at hln hvl hv1 hv2;obtain ⟨h1,h2⟩:=HOW.out
    rcases h2 with ⟨_,h2⟩ | ⟨g,cap,cur0,hv,hbg,hg,hcapN,-⟩
    . exfalso; omega
    subst hv;clear h1 hg;rw [HRA.out] at HSE hln;have HLN:=hid hln;have HSORT:=hid (Z4f wr g cap W.heap.size vs s.X5p HOW.out HSE.out (by omega))
    have hvn:vs.length=N:=hvl;rw [hvn];rw [hln] at HSORT;clear hN hvl;go_wp2_with (go_at_call 159; refine HSORT.out.mono ?_; rintro e w5 ⟨rfl,ll',cur,vs',hp,hso,hr5,hg5⟩; refine halted ?_);have hll:ll'.length=N:=by rw [hp.length_eq]; exact HLN.out
    have hcur:ll'.length <= cur.length:=by
     have h1:=congrArg List.length hr5.2.1;rw [List.length_take] at h1;have h2:=hr5.2.2.1;omega
    have hcmp:=Y5n w5 g cap cur vs' ll' (by omega) (by omega) (by omega) hcur hso hr5
    rw [hll] at hcmp;have HCMP:=hid hcmp;have HP:=hid hp;have HG5:=hid hg5;have HXR1:=hid hxr;clear hcmp hp hso hr5 hg5 hxr hcur hll HOW HSE HSORT;unfold Q1i;go_wp2_with (go_at_call 161; refine HCMP.out.mono ?_; rintro e w6 ⟨r,rfl,hir,ha,hm,-,hg6⟩);go_ret;have hr:r=s.hist:=Q0b.Z8i (fun k hk=>HS.out.shaped k hk) ha (fun x=>by rw [hm x]; exact HP.out.mem_iff)
    subst hr;have hg:=Q6u HG5.out hg6;exact ⟨_,rfl,hir,HXW.out.trans (Below.grown HXR1.out hg HXR1.out.size (fun k hk=>by cases hk; exact hbg))⟩
end Go.Proofs
namespace Go.Proofs
open Go.RowKit Go.Tw Go.Flow
attribute [local go_sem] Oper.semAt_some
theorem Z0i (w:World) (u v:Value) (a b:List Int) (hu:Q0d w u a) (hv:Q0d w v b) :
    Calls Tryz.prog 143 #[u,v] w fun e w'=>e=.returned (.bool (decide (a=b))) /\ Ext w w':=by
 obtain ⟨A,capa,rfl,hla,hcapa,hca⟩:=hu.opened;obtain ⟨B,capb,rfl,hlb,hcapb,hcb⟩:=hv.opened;clear hu hv;go_enter Tryz.func143,Tryz.ntmps143
 by_cases hl:a.length=b.length
 . have hne:((a.length:Int) != (b.length:Int))=false:=by simp [hl]
   go_wp2
   go_loopw [13] (fun i wr=>∃ k:Nat,k <= a.length /\ i=.int .i64 k /\ decide (a.drop k=b.drop k)=decide (a=b) /\ Ext w wr) (fun i _=>a.length - (intOf i).toNat)
   case atStart=>exact ⟨0,Nat.zero_le _,rfl,rfl,Ext.refl _⟩
   case round =>
    obtain ⟨k,hk,rfl,hr,hx⟩:=hrel;have HR:=hid hr; clear hr
    by_cases hlt:k < a.length
    . have hlt2:k < b.length:=by omega
      obtain ⟨b1,off1,rfl,hc1⟩:=hca k hlt;obtain ⟨b2,off2,rfl,hc2⟩:=hcb k hlt2;replace hc1:=hx.cell hc1;replace hc2:=hx.cell hc2;have HD1:=hid (Q3b hlt);have HD2:=hid (Q3b hlt2);clear hca hcb
      by_cases h0:ix a k=ix b k
      . have hx1:(ix a k != ix b k)=false:=by simp [h0]
        have H0:=hid h0; clear h0;go_wp2
        go_quiet (fail)
        all_goals go_wp2
        go_roundw
        case rel=>exact ⟨k + 1,by omega,by go_num,by rw [<- HR.out,HD1.out,HD2.out,Q8p H0.out],hx.drewN _⟩
        case measure=>simp [intOf]; omega
      . have hx1:(ix a k != ix b k)=true:=by simp [h0]
        have H0:=hid h0; clear h0;go_wp2
        go_quiet (fail)
        all_goals go_wp2
        go_ret;exact ⟨Q0u (by rw [<- HR.out,HD1.out,HD2.out,Q8c H0.out]),hx.drewN _⟩
    . clear hca hcb
      go_wp2;go_ret;exact ⟨Q0u (by rw [<- HR.out,List.drop_eq_nil_of_le (by omega),List.drop_eq_nil_of_le (by omega)]; rfl),hx⟩
 . have hne:((a.length:Int) != (b.length:Int))=true:=by simp; omega
   have HL:Hid (decide (a=b)=false):=hid (decide_eq_false (fun h=>hl (by rw [h])))
   clear hl hca hcb;go_wp2;go_ret;exact ⟨Q0u (by rw [HL.out]),Ext.refl _⟩
end Go.Proofs
