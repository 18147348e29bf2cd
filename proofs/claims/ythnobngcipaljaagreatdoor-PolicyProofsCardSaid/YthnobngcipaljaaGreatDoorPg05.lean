/- Part of a proof. -/
import Derived.Test.YthnobngcipaljaaGreatDoorPg04
import Derived.Lib.AppendZeros
import Derived.Lib.Split
import Derived.Lib.SplitLaws
import Derived.Lib.CutLaws
import Derived.Lib.IndexMore
import Derived.Test.YthnobngcipaljaaGreatDoorRows
import Derived.Test.YthnobngcipaljaaGreatDoorTie
import Derived.Test.YthnobngcipaljaaGreatDoorCards
import Derived.OpenShut
import Derived.LaidMore
import Derived.Lay
import Derived.SevenTiedAt
import Derived.Stop.Joined
set_option maxRecDepth 1000000
set_option maxHeartbeats 64000000
set_option linter.unusedVariables false
set_option linter.unusedSimpArgs false
set_option linter.constructorNameAsVariable false
open Go.Lib (hid)
namespace Go.Proofs
open Go.RowKit Go.Tw Go.Flow Tryz
attribute [local go_sem] Oper.semAt_some
def Cpt (W wr:World) (g:Nat) (cur vs:List Value) (ll:List (List Int)) (K k2 kw:Nat):Prop :=
 ∃ cur' vr r,Z4x wr g cur' vr r /\ Kept ll r (K + k2 - 1) /\ r.length=kw /\ cur'.length=cur.length /\ (∀ j,K + k2 <= j -> cur'[j]?=cur[j]?) /\ (cur'[K + k2 - 1]?=cur[K + k2 - 1]?) /\ Sets wr vs ll /\ W.grownBy wr (some g)
theorem Q5t {a w w':World} {row:Option Nat} (h:a.grownBy w row) (hx:Ext w w'):a.grownBy w' row :=
 ⟨hx.os.trans h.os,hx.tape.trans h.tape,hx.output.trans h.output,Nat.le_trans h.size hx.size,fun i hi hr=>(hx.block i (Nat.lt_of_lt_of_le hi h.size)).trans (h.block i hi hr)⟩
theorem X1j {a w w':World} {g:Nat} (h:a.grownBy w (some g)) (hb:Below 0 w w') (ho:∀ k,k ≠ g -> w'.heap[k]?=w.heap[k]?):a.grownBy w' (some g) :=
 ⟨hb.os.trans h.os,hb.tape.trans h.tape,hb.output.trans h.output,Nat.le_trans h.size hb.size,fun i hi hr=>(ho i (fun e=>hr (by rw [e]))).trans (h.block i hi hr)⟩
theorem Q7e (w:World) (row:Option Nat):w.grownBy w row:=⟨rfl,rfl,rfl,Nat.le_refl _,fun _ _ _=>rfl⟩
theorem Q9h {a w w':World} {row:Option Nat} (h:a.grownBy w row) (k:w.grownBy w' row):a.grownBy w' row :=
 ⟨k.os.trans h.os,k.tape.trans h.tape,k.output.trans h.output,Nat.le_trans h.size k.size,fun i hi hr=>(k.block i (Nat.lt_of_lt_of_le hi h.size) hr).trans (h.block i hi hr)⟩
theorem X3p {w w':World} {vs:List Value} {ll:List (List Int)} {g:Nat} {cs:Array Value} (h:Sets w vs ll) (hb:Blk w g 166 cs) (ho:∀ k,k ≠ g -> w'.heap[k]?=w.heap[k]?):Sets w' vs ll :=
 h.at fun _ _ hv b Ya _=>ho b fun e=>J0i (by decide) hv hb (by rw [Ya,e])
theorem Cpt.ext {W wr wr':World} {g:Nat} {cur vs:List Value} {ll:List (List Int)} {K k2 kw:Nat} (h:Cpt W wr g cur vs ll K k2 kw) (hx:Ext wr wr'):Cpt W wr' g cur vs ll K k2 kw:=by
 obtain ⟨cur',vr,r,ha,hk,hl,hcl,hj,J9,hs,hg⟩:=h;exact ⟨cur',vr,r,ha.ext hx,hk,hl,hcl,hj,J9,hs.ext hx,Q5t hg hx⟩
theorem Cpt.put {W wr w9:World} {g:Nat} {cur cur' vs vr:List Value} {ll r:List (List Int)} {K k2 kw:Nat} (ha:Z4x wr g cur' vr r) (Oj:Kept ll r (K + k2 - 1)) (R0:r.length=kw) (hcl:cur'.length=cur.length) (A3:∀ j,K + k2 <= j -> cur'[j]?=cur[j]?) (J2:Sets wr vs ll) (hg:W.grownBy wr (some g))
    (hs:Sorted ll) (Tq:K + k2 < ll.length) (iZ:kw + 1 <= K + k2) (Mv:ll.length <= cur.length) (hne:ll.getD (K + k2) [] ≠ ll.getD (K + k2 - 1) []) (Fj:Blk w9 g 166 (cur'.toArray.setIfInBounds kw (vs.getD (K + k2) undef))) (hl:Below 0 wr w9) (ho:∀ k,k ≠ g -> w9.heap[k]?=wr.heap[k]?):Cpt W w9 g cur vs ll K (k2 + 1) (kw + 1):=by
 have e1:K + k2 - 1 + 1=K + k2:=by omega
 have e2:K + (k2 + 1) - 1=K + k2:=by omega
 have M7:vr.length=kw:=by rw [<- R0]; exact ha.2.2.1
 refine ⟨cur'.set kw (vs.getD (K + k2) undef),vr ++ [vs.getD (K + k2) undef],r ++ [ll.getD (K + k2) []],⟨?_,?_,?_⟩,?_,by rw [List.length_append,R0]; rfl,by rw [List.length_set,hcl],fun j hj=>?_,?_,X3p J2 ha.1 ho,X1j hg hl ho⟩
 . rw [<- List.setIfInBounds_toArray]; exact Fj
 . rw [List.length_append,M7,List.length_singleton,List.take_succ_eq_append_getElem (by rw [List.length_set,hcl]; omega),List.getElem_set_self]
   congr 1
   rw [List.take_set_of_le (Nat.le_refl _)];have:=ha.2.1
   rwa [M7] at this
 . exact (X3p ha.2.2 ha.1 ho).snoc ((X3p J2 ha.1 ho).2 _ Tq).1 (J2.2 _ Tq).2
 . have h:=Oj.snoc hs (by rw [e1]; exact Tq) (by rw [e1]; exact hne)
   rw [e1] at h;rw [e2]; exact h
 . rw [List.getElem?_set_ne (by omega)]; exact A3 j (by omega)
 . rw [e2,List.getElem?_set_ne (by omega)]; exact A3 _ (Nat.le_refl _)
theorem Z4x.cleared {wr w9:World} {g kw:Nat} {cur' vr new:List Value} {r:List (List Int)} (ha:Z4x wr g cur' vr r) (hk:r.length=kw) (Gz:kw + new.length <= cur'.toArray.size) (Fj:Blk w9 g 166 (Q3c cur'.toArray kw new)) (ho:∀ k,k ≠ g -> w9.heap[k]?=wr.heap[k]?):Z4x w9 g (Q3c cur'.toArray kw new).toList vr r:=by
 have M7:vr.length=kw:=by rw [<- hk]; exact ha.2.2.1
 refine ⟨by rw [Array.toArray_toList]; exact Fj,?_,X3p ha.2.2 ha.1 ho⟩
 have h:=ha.2.1;rw [M7] at h ⊢;rw [<- h]
 apply List.ext_getElem?
 intro j;rw [List.getElem?_take,List.getElem?_take]
 by_cases hj:j < kw
 . rw [if_pos hj,if_pos hj,Array.getElem?_toList,Q5q _ _ _ _ Gz,if_neg (by omega),List.getElem?_toArray]
 . rw [if_neg hj,if_neg hj]
theorem Z2t (w:World) (g Qq:Nat) (cur vs:List Value) (ll:List (List Int)) (h0:0 < ll.length) (lx:ll.length <= 1000) (Kq:ll.length <= Qq) (hcl:ll.length <= cur.length) (hs:Sorted ll) (hr:Z4x w g cur vs ll) :
    Calls prog 161 #[.slice (some ⟨g,0,none⟩) ll.length Qq,.func (.func 162) #[] #[]] w fun e w'=>∃ r,e=.returned (.slice (some ⟨g,0,none⟩) r.length Qq) /\ Q4g w' (.slice (some ⟨g,0,none⟩) r.length Qq) r /\ Asc r /\ (∀ x,x ∈ r ↔ x ∈ ll) /\ r.length <= ll.length /\ w.grownBy w' (some g):=by
 have HR:=hid hr;have HS:=hid hs;obtain ⟨n,hn⟩:∃ n,ll.length=n:=⟨_,rfl⟩;have HN:=hid hn;have be:Hid (w.grownBy w (some g)):=hid ⟨rfl,rfl,rfl,Nat.le_refl _,fun _ _ _=>rfl⟩;rw [hn] at h0 lx Kq hcl ⊢;clear hr hs hn
 by_cases h2:n < 2
 . have il:(n:Int) < 2:=by omega
   have HK:Hid (Kept ll ll 0):=hid (by
    have:=Kept.first (ll:=ll) (by rw [HN.out]; exact h0)
    rwa [List.take_of_length_le (by rw [HN.out]; omega)] at this)
   have HE:Hid (n=ll.length):=hid HN.out.symm;clear h2;go_enter func161,ntmps161;go_wp2;go_ret;have hh:=HK.out.all (by have:=HN.out; omega)
   refine ⟨ll,by rw [HN.out]; rfl,HR.out.reads (by rw [HN.out]; omega) (by rw [HN.out]; exact Kq),hh.1,hh.2,by rw [HN.out]; exact Nat.le_refl _,be.out⟩
 have il:¬ (n:Int) < 2:=by omega
 go_enter func161,ntmps161;go_wp2
 go_loopw [5] (fun i wr=>∃ (K J:Nat),J + 1=K /\ K <= n /\ i=.int .i64 K /\ Kept ll (ll.take K) J /\ Ext w wr) (fun i _=>n - (intOf i).toNat)
 case atStart=>exact ⟨1,0,rfl,by omega,rfl,Kept.first (by rw [HN.out]; exact h0),Ext.refl _⟩
 case round =>
  obtain ⟨K,J,hJ,hK,rfl,G9,hx⟩:=hrel;have G2:=hid G9;have HX:=hid hx;have G5:=hid (HR.out.ext hx);clear G9
  by_cases Tq:K < n
  . have Yr:(K:Int) < n:=by omega
    have fl:(J:Int) < n:=by omega
    have uZ:IntKind.i64.wrap ((K:Int) - 1)=(J:Int):=by rw [show (K:Int) - 1=(J:Int) by omega]; exact Q3b _ (by omega) (by omega)
    obtain ⟨cK,iK,-,-⟩:=G5.out.at (k:=K) (by rw [HN.out]; exact Tq)
    obtain ⟨cJ,iJ,-,-⟩:=G5.out.at (k:=J) (by rw [HN.out]; omega)
    obtain ⟨lK,Wa⟩:∃ x,ll.getD K []=x:=⟨_,rfl⟩;obtain ⟨lJ,Va⟩:∃ x,ll.getD J []=x:=⟨_,rfl⟩;rw [Wa] at iK;rw [Va] at iJ;obtain ⟨vK,ae⟩:∃ x,vs.getD K undef=x:=⟨_,rfl⟩;obtain ⟨vJ,Zf⟩:∃ x,vs.getD J undef=x:=⟨_,rfl⟩;rw [ae] at cK iK;rw [Zf] at cJ iJ;have Ua:=hid iK;have al:=hid iJ;have sQ:=hid Wa;have gZ:=hid Va;obtain ⟨q,hq⟩:∃ q,(Y4m lK lJ == 0)=q:=⟨_,rfl⟩;have HQ:=hid hq;have Vq:=(Ext.refl wr).drew;clear Wa Va ae Zf iK iJ hq;go_wp2;refine Flow.Q1h [.p,.p,.p,.p,.w,.p,.p,.p,.p,.w,.w] [0,1,2,3,4,5,6,7,8,9,10] [[],[],[],[1,2],[3],[],[],[6],[5,7],[8],[0,4,9]]
     [.c 0 (.func (.func 162) #[] #[]),.c 1 (.slice (some ⟨g,0,none⟩) n Qq),.c 2 (.int .i64 (K:Int)),.c 3 (.pointer (some ⟨g,K,none⟩)),.c 4 (vK),.c 5 (.slice (some ⟨g,0,none⟩) n Qq),.c 6 (.int .i64 (K:Int)),.c 7 (.int .i64 (J:Int)),.c 8 (.pointer (some ⟨g,J,none⟩)),.c 9 (vJ),.c 10 (.bool q)]
     (by kernel_rfl) rfl (by kernel_rfl) ⟨?g0,?g1,?g2,?g3,?g4,?g5,?g6,?g7,?g8,?g9,?g10,trivial⟩ ?post
    case g0 | g1 | g2 | g5 | g6=>
     intro v w1 hx;intro bb hbb;subst hbb;refine ⟨_,fun w=>?_,rfl⟩;go_simp
    case g3 | g7 | g8=>
     intro v w1 hx;(repeat intro (zq:v _=_));intro bb hbb;subst hbb;refine ⟨_,fun w=>?_,rfl⟩;go_simp
    case g4 | g9=>
     intro v w1 hx;(repeat intro (zq:v _=_));intro bb hbb;subst hbb;have cK:=hx.cell cK;have cJ:=hx.cell cJ;intro K hK;go_simp;exact hK _ _ (Ext.refl _) rfl
    case g10=>
     intro v w1 hx;(repeat intro (zq:v _=_));intro bb hbb;subst hbb;have cK:=hx.cell cK;have cJ:=hx.cell cJ;intro L hL;go_simp;refine Q0d (X2m w1 _ _ lK lJ (Ua.out.ext (Vq.trans hx)) (al.out.ext (Vq.trans hx))) ?_;rintro e w2 ⟨rfl,o,rfl⟩;rw [HQ.out];exact ⟨_,rfl,hL _ _ (Ext.box _ _) rfl⟩
    case post =>
     intro v w1 hx (q0:v 0=_) (q1:v 1=_) (q2:v 2=_) (q3:v 3=_) (q4:v 4=_) (q5:v 5=_) (q6:v 6=_) (q7:v 7=_) (q8:v 8=_) (q9:v 9=_) (q10:v 10=_);simp only [Flow.All,Flow.acts,Act.put];go_simp;have iz:=hid (HX.out.trans (Vq.trans hx));have Fg:=hid (G5.out.ext (Vq.trans hx));clear hx Vq cK cJ q0 q1 q2 q3 q4 q5 q6 q7 q8 q9 q10;obtain ⟨V,rfl⟩:∃ X,X=w1:=⟨_,rfl⟩;cases q with
     | false =>
       have qq:Hid (Kept ll (ll.take (K + 1)) K):=hid (by
        have h:=G2.out.snoc HS.out (by rw [HN.out]; omega) (by
         rw [hJ,sQ.out,gZ.out];intro e;have:=HQ.out;rw [(X4j lK lJ).2 e] at this;cases this)
        subst hJ
        rwa [Kept.take_snoc (by rw [HN.out]; omega)] at h)
       go_wp2;go_roundw
       case rel=>exact ⟨K + 1,K,rfl,by omega,by go_num,qq.out,iz.out⟩
       case measure=>simp [intOf]; omega
     | true =>
       have Kw:ll.getD K []=ll.getD J []:=by
        rw [sQ.out,gZ.out];exact (X4j lK lJ).1 (by have:=HQ.out; simpa using this)
       have qq:Hid (Cpt V V g cur vs ll K 1 K):=hid ⟨cur,vs.take K,ll.take K,⟨Fg.out.1,by
           have h1:=Fg.out.2.1;have h2:=Fg.out.2.2.1;rw [List.length_take,Nat.min_eq_left (by rw [h2,HN.out]; omega),<- h1,List.take_take,Nat.min_eq_left (by rw [h2,HN.out]; omega)],⟨by rw [List.length_take,List.length_take,Fg.out.2.2.1],fun i hi=>by
           rw [List.length_take,HN.out] at hi;have h:=Fg.out.2.2.2 i (by rw [HN.out]; omega)
           have e1:(vs.take K).getD i undef=vs.getD i undef:=by simp [show i < K by omega]
           have e2:(ll.take K).getD i []=ll.getD i []:=by simp [show i < K by omega]
           rw [e1,e2]; exact h⟩⟩,by
           have h:=G2.out.same (by rw [HN.out]; omega) (by rw [hJ]; exact Kw)
           rw [hJ] at h;rw [show K + 1 - 1=K by omega]; exact h,by rw [List.length_take,HN.out]; omega,rfl,fun _ _=>rfl,rfl,Fg.out.2.2,⟨rfl,rfl,rfl,Nat.le_refl _,fun _ _ _=>rfl⟩⟩
       have s1:(K:Int) <= (n:Int):=by omega
       have s2:¬ n < K:=by omega
       have s3:¬ Qq=K:=by omega
       have s4:¬ Qq < K:=by omega
       have s5:¬ Qq < n:=by omega
       clear Kw;have fQ:Hid (∀ kw k2 wr',1 <= k2 -> K + k2 < n -> Cpt V wr' g cur vs ll K k2 kw -> Y4m (ll.getD (K + k2) []) (ll.getD (K + k2 - 1) [])=0 -> Cpt V wr' g cur vs ll K (k2 + 1) kw):=hid (by
        rintro kw k2 wr' h1 Tq ⟨cur',vr,r,ha,hk,hl,Ev,hj,J9,hs,hg⟩ he;refine ⟨cur',vr,r,ha,?_,hl,Ev,fun j h=>hj j (by omega),hj _ (by omega),hs,hg⟩
        have h:=hk.same (by rw [HN.out]; omega) (by rw [show K + k2 - 1 + 1=K + k2 by omega]; exact (X4j _ _).1 he)
        rw [show K + k2 - 1 + 1=K + (k2 + 1) - 1 by omega] at h
        exact h)
       go_wp2;obtain ⟨m,hm⟩:∃ m,n - K=m:=⟨_,rfl⟩;obtain ⟨c2,Xx⟩:∃ c2,Qq - K=c2:=⟨_,rfl⟩;rw [hm,Xx]
       go_loopw [5,7] (fun kv iv wr=>∃ (kw k2:Nat),1 <= k2 /\ K + k2 <= n /\ kw + 1 <= K + k2 /\ kv=.int .i64 kw /\ iv=.int .i64 k2 /\ Cpt V wr g cur vs ll K k2 kw) (fun _ i _=>m - (intOf i).toNat)
       case atStart=>exact ⟨K,1,Nat.le_refl _,by omega,by omega,rfl,rfl,qq.out⟩
       case round =>
        obtain ⟨kw,k2,h1,nj,iZ,rfl,rfl,fZ⟩:=hrel;have HC:=hid fZ;clear fZ
        by_cases Mx:k2 < m
        . have Yf:(k2:Int) < m:=by omega
          obtain ⟨j2,Xf⟩:∃ j2,j2 + 1=k2:=⟨k2 - 1,by omega⟩
          have T1:IntKind.i64.wrap ((k2:Int) - 1)=(j2:Int):=by rw [show (k2:Int) - 1=(j2:Int) by omega]; exact Q3b _ (by omega) (by omega)
          have Zm:(j2:Int) < m:=by omega
          obtain ⟨cur',vr,r,ha,Oj,R0,Ev,A3,J9,J2,hg⟩:=HC.out;have F2:=Fg.out;have cA:wr.cell? ⟨g,K + k2,none⟩=some (vs.getD (K + k2) undef):=by
           have h:=(F2.at (k:=K + k2) (by rw [HN.out]; omega)).1
           rw [F2.1.cell,List.getElem?_toArray] at h;rw [ha.1.cell,List.getElem?_toArray,A3 _ (Nat.le_refl _)]; exact h
          have cB:wr.cell? ⟨g,K + j2,none⟩=some (vs.getD (K + j2) undef):=by
           have h:=(F2.at (k:=K + j2) (by rw [HN.out]; omega)).1
           rw [F2.1.cell,List.getElem?_toArray] at h;rw [show K + k2 - 1=K + j2 by omega] at J9
           rw [ha.1.cell,List.getElem?_toArray,J9]; exact h
          have iA:=(J2.2 (K + k2) (by rw [HN.out]; omega)).1.ints (by have:=(J2.2 (K + k2) (by rw [HN.out]; omega)).2; omega)
          have iB:=(J2.2 (K + j2) (by rw [HN.out]; omega)).1.ints (by have:=(J2.2 (K + j2) (by rw [HN.out]; omega)).2; omega)
          have Ta:=J2.2 (K + k2) (by rw [HN.out]; omega)
          have F9:=fQ.out kw k2 wr h1 (by omega) HC.out
          rw [show K + k2 - 1=K + j2 by omega] at F9
          obtain ⟨lA,iW⟩:∃ x,ll.getD (K + k2) []=x:=⟨_,rfl⟩;obtain ⟨lB,gW⟩:∃ x,ll.getD (K + j2) []=x:=⟨_,rfl⟩;obtain ⟨vA,fW⟩:∃ x,vs.getD (K + k2) undef=x:=⟨_,rfl⟩;obtain ⟨vB,Sa⟩:∃ x,vs.getD (K + j2) undef=x:=⟨_,rfl⟩;rw [iW,fW] at iA Ta;rw [gW,Sa] at iB;rw [fW] at cA;rw [Sa] at cB;rw [iW,gW] at F9;have Ym:=hid iA;have Xm:=hid iB;have dW:=hid iW;have C1:=hid gW;have vX:=hid fW;have cW:=hid Ta;have bW:=hid ha;have Ra:=hid Oj;have ik:=hid R0;have Yz:=hid Ev;have Wm:=hid A3;have dG:=hid J2;have HG:=hid hg;have Zw:=hid F9;obtain ⟨q,hq⟩:∃ q,(Y4m lA lB == 0)=q:=⟨_,rfl⟩;have HQ:=hid hq;have Vq:=(Ext.refl wr).drew;clear iW gW fW Sa iA iB hq F2 Ta ha Oj R0 Ev A3 J9 J2 hg F9 HC
          go_light
          go_wp2;refine Flow.Q1h [.p,.p,.p,.p,.w,.p,.p,.p,.p,.w,.w,.p] [0,1,2,3,4,5,6,7,8,9,10,11] [[],[],[],[1,2],[3],[],[],[6],[5,7],[8],[0,4,9],[10]]
           [.c 0 (.func (.func 162) #[] #[]),.c 1 (.slice (some ⟨g,K,none⟩) m c2),.c 2 (.int .i64 (k2:Int)),.c 3 (.pointer (some ⟨g,K + k2,none⟩)),.c 4 (vA),.c 5 (.slice (some ⟨g,K,none⟩) m c2),.c 6 (.int .i64 (k2:Int)),.c 7 (.int .i64 (j2:Int)),.c 8 (.pointer (some ⟨g,K + j2,none⟩)),.c 9 (vB),.c 10 (.bool q),.c 11 (.bool (!q))]
           (by kernel_rfl) rfl (by kernel_rfl) ⟨?g0,?g1,?g2,?g3,?g4,?g5,?g6,?g7,?g8,?g9,?g10,?g11,trivial⟩ ?post
          case g0 | g1 | g2 | g5 | g6=>
           intro v w1 hx;intro bb hbb;subst hbb;refine ⟨_,fun w=>?_,rfl⟩;go_simp
          case g3 | g7 | g8 | g11=>
           intro v w1 hx;(repeat intro (zq:v _=_));intro bb hbb;subst hbb;refine ⟨_,fun w=>?_,rfl⟩;go_simp
          case g4 | g9=>
           intro v w1 hx;(repeat intro (zq:v _=_));intro bb hbb;subst hbb;have cA:=hx.cell cA;have cB:=hx.cell cB;intro K hK;go_simp;exact hK _ _ (Ext.refl _) rfl
          case g10=>
           intro v w1 hx;(repeat intro (zq:v _=_));intro bb hbb;subst hbb;have cA:=hx.cell cA;have cB:=hx.cell cB;intro L hL;go_simp;refine Q0d (X2m w1 _ _ lA lB (Ym.out.ext (Vq.trans hx)) (Xm.out.ext (Vq.trans hx))) ?_;rintro e w2 ⟨rfl,o,rfl⟩;rw [HQ.out];exact ⟨_,rfl,hL _ _ (Ext.box _ _) rfl⟩
          case post =>
           intro v w1 hx;(iterate 12 intro (zq:v _=_));simp only [Flow.All,Flow.acts,Act.put];go_simp;have Kg:=hid (Vq.trans hx);have dZ:=hid (bW.out.ext Kg.out);have Qa:=hid (dG.out.ext Kg.out);have Q0:=hid (Q5t HG.out Kg.out);replace cA:=Kg.out.cell (show wr.cell? ⟨g,K + k2,none⟩=some vA from cA)
           clear hx Vq cB;(repeat clear zq);obtain ⟨Y,rfl⟩:∃ X,X=w1:=⟨_,rfl⟩;cases q with
           | true =>
             have D3:=hid ((Zw.out (by have:=HQ.out; simpa using this)).ext Kg.out)
             clear cA;go_wp2;go_roundw
             case rel=>exact ⟨kw,k2 + 1,by omega,by omega,by omega,rfl,by go_num,D3.out⟩
             case measure=>simp [intOf]; omega
           | false =>
             have Vm:(kw:Int) < n:=by omega
             have Fv:=(cW.out.1.ints (by have:=cW.out.2; omega)).one
             have cZ:=(cW.out.1.ints (by have:=cW.out.2; omega)).cells
             have bj:Hid (vA.oneCell'=true):=hid Fv;have Pa:=hid cZ;have Oa:Hid (kw < cur'.toArray.size):=hid (by rw [List.size_toArray,Yz.out]; omega)
             have Zk:Hid (ll.getD (K + k2) [] ≠ ll.getD (K + k2 - 1) []):=hid (by
              rw [show K + k2 - 1=K + j2 by omega,dW.out,C1.out]
              intro e;have:=HQ.out;rw [(X4j lA lB).2 e] at this;cases this)
             clear Fv cZ;go_wp2_with (refine X5h rfl _ _ 166 rfl J3k rfl rfl Pa.out bj.out dZ.out.1 Oa.out ?_; intro w9 Fj Pj cj);go_roundw
             case rel=>exact ⟨kw + 1,k2 + 1,by omega,by omega,by omega,by go_num,by go_num,Cpt.put dZ.out Ra.out ik.out Yz.out Wm.out Qa.out Q0.out HS.out (by rw [HN.out]; omega) iZ (by rw [HN.out]; exact hcl) Zk.out (by rw [vX.out]; exact Fj) (Pj 0 (Nat.zero_le _)) cj⟩
             case measure=>simp [intOf]; omega
        . have N9:¬ (k2:Int) < m:=by omega
          obtain ⟨cur',vr,r,ha,Oj,R0,Ev,A3,J9,J2,hg⟩:=HC.out;have t1:(kw:Int) <= (n:Int):=by omega
          have t2:¬ n < kw:=by omega
          have t3:¬ Qq=kw:=by omega
          have t4:¬ Qq < kw:=by omega
          have t5:¬ Qq < n:=by omega
          have bW:=hid ha;have HG:=hid hg;have ik:=hid R0;have zx:=hid (Oj.all (by rw [HN.out]; omega))
          have Eg:Hid (kw + (Builtin.zeroCells (Value.slice none 0 0).cells (n - kw)).size <= cur'.toArray.size):=hid (by
           rw [<- Array.length_toList,X0x,List.length_replicate,List.size_toArray,Ev]; omega)
          have JZ:Hid (∀ v ∈ (Builtin.zeroCells (Value.slice none 0 0).cells (n - kw)).toList,v.oneCell'=true):=hid (by
           rw [X0x]; intro v hv; rw [List.eq_of_mem_replicate hv]; rfl)
          clear ha Oj R0 Ev A3 J9 J2 hg HC;go_wp2_with (refine X2g rfl _ 168 166 rfl underlying168 (show 0 < n - kw by omega) rfl bW.out.1 _ J4q JZ.out Eg.out ?_; intro w9 Fj Pj cj)
          go_ret;have hh:=bW.out.cleared ik.out (by rw [Array.length_toList]; exact Eg.out) Fj cj
          refine ⟨r,by rw [ik.out]; rfl,hh.reads (by rw [ik.out]; omega) (by rw [ik.out]; omega),zx.out.1,zx.out.2,by rw [ik.out]; omega,?_⟩
          exact X1j (Q9h (Q5t (Q7e w (some g)) iz.out) HG.out) (Pj 0 (Nat.zero_le _)) cj
  . have Na:Hid (Kept ll ll J):=hid (by
     have:=G2.out
     rwa [List.take_of_length_le (by rw [HN.out]; omega)] at this)
    go_wp2;go_ret;have hh:=Na.out.all (by have:=HN.out; omega)
    exact ⟨ll,by rw [HN.out]; rfl,G5.out.reads (by rw [HN.out]; omega) (by rw [HN.out]; exact Kq),hh.1,hh.2,by rw [HN.out]; exact Nat.le_refl _,Q5t be.out HX.out⟩
end Go.Proofs
namespace Go.Tw
open Go.RowKit Go.Flow
theorem Y8i:∀ (l:List PV) (k:Nat),(l.flatMap Q3f).take (k * 4)=(l.take k).flatMap Q3f
 | [],k=>by simp
 | q :: l,0=>by simp
 | q :: l,k + 1=>by
   rw [List.flatMap_cons,List.take_succ_cons,List.flatMap_cons,<- Y8i l k,List.take_append,Q4t];rw [List.take_of_length_le (by rw [Q4t]; omega),show (k + 1) * 4 - 4=k * 4 by omega]
theorem Z9n (n:Nat):∀ v ∈ (Builtin.zeroCells (Value.agg #[.int .i64 0,.int .i64 0,.int .i64 0,.slice none 0 0]).cells n).toList,v.oneCell'=true:=by
 intro v hv;unfold Builtin.zeroCells at hv;rw [Array.toList_map,List.mem_map] at hv;obtain ⟨i,_,rfl⟩:=hv;have h4:i % 4=0 ∨ i % 4=1 ∨ i % 4=2 ∨ i % 4=3:=by omega
 show ((#[Value.int .i64 0,.int .i64 0,.int .i64 0,.slice none 0 0]:Array Value)[i % 4]!).oneCell'=true
 rcases h4 with h | h | h | h <;> rw [h] <;> rfl
theorem Z7t (n:Nat):(Builtin.zeroCells (Value.agg #[.int .i64 0,.int .i64 0,.int .i64 0,.slice none 0 0]).cells n).size=n * 4:=by
 unfold Builtin.zeroCells;simp [Value.cells]
end Go.Tw
namespace Go.Proofs
open Go.RowKit Go.Tw Go.Flow Tryz
attribute [local go_sem] Oper.semAt_some
theorem Y2z.ext {g:Nat} {pre post:Array Value} {w w':World} {t:Plan -> Bool} (h:Y2z g pre post w t) (hx:Ext w w'):Y2z g pre post w' t:=fun W y A n c hW=>h W y A n c (hx.trans hW)
theorem Y2k (w:World) (B:Nat) (v:Value) (ps:List PV) (g:Nat) (pre post:Array Value) (t:Plan -> Bool) (hv:Q1b w B 159 4 Q3f v ps) (hc:Q0r w ps) (hl:ps.length <= 100000)
    (eg:∀ args w,(callFunc g args).run prog w=.ok (.enter g args) w) (ht:Y2z g pre post w t) :
    Calls prog 226 #[v,.func (.func g) pre post] w fun e w'=>e=.returned (.bool (ps.any fun q=>t q.1)) /\ Ext w w':=by
 have HI:=hid (Y0b w B v ps g pre post t hv hc hl eg ht);obtain ⟨A,cv,rfl⟩:∃ A cv,v=.slice A ps.length cv:=by
  obtain ⟨A,c,h,_⟩:=hv.shape;exact ⟨A,c,h⟩
 obtain ⟨L,hL⟩:∃ L,ps.length=L:=⟨_,rfl⟩;rw [hL] at HI ⊢;clear hv hc ht hL;go_enter func226,ntmps226;go_wp2_with (go_at_call 247; refine HI.out.mono ?_; rintro e w' ⟨r,rfl,hr,hx⟩; have HR:=hid hr; clear hr);go_ret;refine ⟨Q0x ?_,hx⟩
 rcases HR.out with ⟨rfl,h⟩ | ⟨k,rfl,q,hq,uX,_⟩
 . rw [List.any_eq_false.2 (fun q hq=>by rw [h q hq]; simp)]; rfl
 . rw [List.any_eq_true.2 ⟨q,List.mem_of_getElem? hq,uX⟩]
   simp
theorem K1o (w:World) (x:Plan) (A:Option Addr) (n c Bx:Nat) (hb:Blk w Bx 159 #[.int .i64 x.weight,.int .i64 x.closings,.int .i64 x.delay,.slice A n c]) :
    Y2z 227 #[] #[.pointer (some ⟨Bx,0,none⟩)] w (fun o=>o.Q5h x):=by
 intro W y A' n' c' hW;have HB:=hid (hb.ext hW);have lw:=hid (fun W=>Y4p W y x A' A n' n c' c);obtain ⟨x1,x2,x3,x4⟩:=x;obtain ⟨y1,y2,y3,y4⟩:=y;unfold Z9e at lw ⊢;dsimp only at lw HB ⊢;obtain ⟨q,hq⟩:∃ q,(⟨y1,y2,y3,y4⟩:Plan).Q5h ⟨x1,x2,x3,x4⟩=q:=⟨_,rfl⟩;rw [hq] at lw ⊢;have hx:=Ext.box W (.cells #[.int .i64 y1,.int .i64 y2,.int .i64 y3,.slice A' n' c'] 159);have k0:=Blk.made W 159 #[.int .i64 y1,.int .i64 y2,.int .i64 y3,.slice A' n' c'];have ux:=HB.out.ext hx;have c0:=(k0).cell 0;have c1:=(k0).cell 1;have c2:=(k0).cell 2;have c3:=(k0).cell 3;simp only [Go.Tw.gA,Go.Tw.gB,Go.Tw.gC] at c0 c1 c2 c3;have d0:=(ux).cell 0;have d1:=(ux).cell 1;have d2:=(ux).cell 2;have d3:=(ux).cell 3;simp only [Go.Tw.gA,Go.Tw.gB,Go.Tw.gC] at d0 d1 d2 d3;clear hb hW hq k0 ux;show Calls prog 227 #[.agg #[.int .i64 y1,.int .i64 y2,.int .i64 y3,.slice A' n' c'],.pointer (some ⟨Bx,0,none⟩)] W _;go_enter func227,ntmps227;go_wp2_with (go_at_call 228; refine (lw.out _).mono ?_; rintro e w9 ⟨rfl,kx⟩);go_ret;exact ⟨rfl,hx.trans kx⟩
theorem K1p (w:World) (x:Plan) (A:Option Addr) (n c:Nat):Y2z 228 #[Z9e x (.slice A n c)] #[] w (fun o=>x.Q5h o):=fun W y A' n' c' _=>Y4p W x y A A' n n' c c'
structure Z7c (W wr:World) (g:Nat) (cur cur':Array Value) (ps:List PV) (t:Plan -> Bool) (J i:Nat):Prop where
 blk:Blk wr g 159 cur'
 size:cur'.size=cur.size
 len:((ps.take J).filter fun q=>!t q.1).length=i
 head:cur'.toList.take (i * 4)=((ps.take J).filter fun q=>!t q.1).flatMap Q3f
 rest:∀ k,J * 4 <= k -> cur'[k]?=cur[k]?
 grown:W.grownBy wr (some g)
 closed:Q0r wr ps
theorem Q0r.off {w w':World} {ps:List PV} {g:Nat} {cs:Array Value} (h:Q0r w ps) (hb:Blk w g 159 cs) (ho:∀ k,k < w.heap.size -> k ≠ g -> w'.heap[k]?=w.heap[k]?):Q0r w' ps:=fun q hq=>by
 obtain ⟨h1,h2⟩:=h q hq;refine ⟨h1,?_⟩
 rcases h2 with h2 | ⟨g',Qq,cur,hv,Qx,Qj,r⟩
 . exact .inl h2
 . refine .inr ⟨g',Qq,cur,hv,Qx,(ho g' (Array.getElem?_eq_some_iff.1 Qj).1 fun e=>?_).trans Qj,r⟩
   subst e;unfold Blk at hb;rw [hb] at Qj;injection Qj with h;injection h with _ h;exact absurd h (by decide)
theorem Z7c.ext {W wr wr':World} {g:Nat} {cur cur':Array Value} {ps:List PV} {t:Plan -> Bool} {J i:Nat} (h:Z7c W wr g cur cur' ps t J i) (hx:Ext wr wr'):Z7c W wr' g cur cur' ps t J i :=
 ⟨h.blk.ext hx,h.size,h.len,h.head,h.rest,Q5t h.grown hx,h.closed.ext hx⟩
theorem Z7c.skip {W wr:World} {g:Nat} {cur cur':Array Value} {ps:List PV} {t:Plan -> Bool} {J i:Nat} (h:Z7c W wr g cur cur' ps t J i) {q:PV} (hq:ps[J]?=some q) (ht:t q.1=true):Z7c W wr g cur cur' ps t (J + 1) i:=by
 obtain ⟨hJ,rfl⟩:=List.getElem?_eq_some_iff.1 hq;have e:(ps.take (J + 1)).filter (fun q=>!t q.1)=(ps.take J).filter fun q=>!t q.1:=by
  rw [List.take_succ_eq_append_getElem hJ,List.filter_append]; simp [ht]
 exact ⟨h.blk,h.size,by rw [e]; exact h.len,by rw [e]; exact h.head,fun k hk=>h.rest k (by omega),h.grown,h.closed⟩
theorem Z7c.put {W wr w9:World} {g Qq:Nat} {cur cur':Array Value} {ps:List PV} {t:Plan -> Bool} {J i:Nat} (h:Z7c W wr g cur cur' ps t J i) {q:PV} (hq:ps[J]?=some q) (ht:t q.1=false) (hi:i <= J) (pq:cur.size=Qq * 4) (hc:ps.length <= Qq)
    (hb:Blk w9 g 159 (Q3c cur' (i * 4) (Q3f q))) (hl:Below 0 wr w9) (ho:∀ k,k ≠ g -> w9.heap[k]?=wr.heap[k]?):Z7c W w9 g cur (Q3c cur' (i * 4) (Q3f q)) ps t (J + 1) (i + 1):=by
 obtain ⟨hJ,rfl⟩:=List.getElem?_eq_some_iff.1 hq;have e:(ps.take (J + 1)).filter (fun q=>!t q.1)=((ps.take J).filter fun q=>!t q.1) ++ [ps[J]]:=by
  rw [List.take_succ_eq_append_getElem hJ,List.filter_append]; simp [ht]
 have Gz:i * 4 + (Q3f ps[J]).length <= cur'.size:=by rw [h.size,pq,Q4t]; omega
 refine ⟨hb,by rw [X4m,h.size],by rw [e,List.length_append,h.len]; rfl,?_,fun k hk=>?_,X1j h.grown hl ho,h.closed.off h.blk fun k _ hk=>ho k hk⟩
 . rw [e,List.flatMap_append,<- h.head,List.flatMap_singleton]
   apply List.ext_getElem?
   intro k;rw [List.getElem?_take,Array.getElem?_toList,Q5q _ _ _ _ Gz,Q4t];have tX:(cur'.toList.take (i * 4)).length=i * 4:=by rw [List.length_take,Array.length_toList,h.size,pq]; omega
   by_cases h1:k < i * 4
   . rw [if_pos (by omega),if_neg (by omega),List.getElem?_append_left (by rw [tX]; exact h1),List.getElem?_take,if_pos h1,Array.getElem?_toList]
   . rw [List.getElem?_append_right (by rw [tX]; omega),tX]
     by_cases h2:k < (i + 1) * 4
     . rw [if_pos h2,if_pos (by omega)]
     . rw [if_neg h2]
       exact (List.getElem?_eq_none (by rw [Q4t]; omega)).symm
 . rw [Q5q _ _ _ _ Gz,Q4t,if_neg (by omega)]
   exact h.rest k (by omega)
theorem Z7c.start {W wr:World} {g:Nat} {cur:Array Value} {ps:List PV} {t:Plan -> Bool} {k:Nat} {q:PV} (hb:Blk W g 159 cur) (hx:Ext W wr) (ht:cur.toList.take (ps.length * 4)=ps.flatMap Q3f) (hc:Q0r W ps) (hq:ps[k]?=some q) (uX:t q.1=true)
    (mw:∀ j q',j < k -> ps[j]?=some q' -> t q'.1=false):Z7c W wr g cur cur ps t (k + 1) k:=by
 obtain ⟨hk,rfl⟩:=List.getElem?_eq_some_iff.1 hq;have e:(ps.take (k + 1)).filter (fun q=>!t q.1)=ps.take k:=by
  rw [List.take_succ_eq_append_getElem hk,List.filter_append,List.filter_eq_self.2]
  . simp [uX]
  . intro z hz
    obtain ⟨j,hj,rfl⟩:=List.getElem_of_mem hz;rw [List.length_take] at hj;rw [List.getElem_take,mw j ps[j] (by omega) (List.getElem?_eq_getElem (by omega))]; rfl
 refine ⟨hb.ext hx,rfl,by rw [e,List.length_take]; omega,?_,fun _ _=>rfl,Q5t (Q7e W _) hx,hc.ext hx⟩
 rw [e,<- Y8i,<- ht,List.take_take,Nat.min_eq_left (by omega)]
theorem Tryz.K0h (w:World):(zeroValue 159).run prog w=.ok (.agg #[.int .i64 0,.int .i64 0,.int .i64 0,.slice none 0 0]) w:=by kernel_rfl
theorem filter_none {ps:List PV} {t:Plan -> Bool} (h:∀ q ∈ ps,t q.1=false):(ps.filter fun q=>!t q.1)=ps:=List.filter_eq_self.2 fun q hq=>by rw [h q hq]; rfl
def K0w (v v':Value) (k:Nat):Prop:=∀ A n c,v=.slice A n c -> v'=.slice A k c
theorem Y8p (w:World) (B:Nat) (v:Value) (ps:List PV) (fg:Nat) (pre post:Array Value) (t:Plan -> Bool) (hv:Q1b w B 159 4 Q3f v ps) (hc:Q0r w ps) (hl:ps.length <= 100000)
    (eg:∀ args w,(callFunc fg args).run prog w=.ok (.enter fg args) w) (ht:∀ W,Y2z fg pre post W t) :
    Calls prog 229 #[v,.func (.func fg) pre post] w fun e w'=>∃ v',e=.returned v' /\ Q1b w' B 159 4 Q3f v' (ps.filter fun q=>!t q.1) /\ Q0r w' (ps.filter fun q=>!t q.1) /\ w.grownBy w' v.ownBlock /\ K0w v v' (ps.filter fun q=>!t q.1).length:=by
 have HI:=hid (Y0b w B v ps fg pre post t hv hc hl eg (ht w));have HT:=hid ht;have HC:=hid hc
 rcases OwnP.cases hv with ⟨rfl,rfl⟩ | ⟨g,Qq,cur,rfl,Qx,hb,Kq,P2,pq,O2⟩
 . have HV:=hid hv
   clear hv hc ht;go_enter func229,ntmps229;go_wp2_with (go_at_call 247; refine HI.out.mono ?_; rintro e w5 ⟨r,rfl,hr,Cq⟩; have vq:=hid Cq; refine halted ?_);have Z9:r=-1:=by
    rcases hr with ⟨h,_⟩ | ⟨k,_,q,hq,_⟩
    . exact h
    . simp at hq
   subst Z9;clear hr Cq;unfold Q1o;go_wp2;go_ret;exact ⟨_,rfl,HV.out.below vq.out,Q0r.nil _,Q5t (Q7e w _) vq.out,fun A n c h=>by cases h; rfl⟩
 . have HV:=hid hv
   have HB:=hid hb;have tk:=hid O2;have uz:=hid pq;have Ma:=hid P2;have eQ:=hid Qx;obtain ⟨L,hL⟩:∃ L,ps.length=L:=⟨_,rfl⟩;have HL:=hid hL;rw [hL] at HI Kq hl ⊢;clear hv hb O2 pq P2 Qx hc ht hL;go_enter func229,ntmps229;go_wp2_with (go_at_call 247; refine HI.out.mono ?_; rintro e w5 ⟨r,rfl,hr,Cq⟩; have vq:=hid Cq; refine halted ?_);have HR:=hid hr;clear hr Cq;unfold Q1o
   by_cases Z9:r=-1
   . subst Z9
     have HN:Hid ((ps.filter fun q=>!t q.1)=ps):=hid (by
      rcases HR.out with ⟨_,h⟩ | ⟨k,h,_⟩
      . exact filter_none h
      . omega)
     go_wp2;go_ret;exact ⟨_,rfl,by rw [HN.out,<- HL.out]; exact HV.out.below vq.out,by rw [HN.out]; exact HC.out.ext vq.out,Q5t (Q7e w _) vq.out,fun A n c h=>by cases h; rw [HN.out,HL.out]; rfl⟩
   . obtain ⟨k0,rfl,q0,Z4,uX,mw⟩:∃ k:Nat,r=(k:Int) /\ ∃ q,ps[k]?=some q /\ t q.1=true /\ ∀ j q',j < k -> ps[j]?=some q' -> t q'.1=false:=by
      rcases HR.out with ⟨h,_⟩ | h
      . exact absurd h Z9
      . exact h
     have vk:k0 < L:=by rw [<- HL.out]; exact (List.getElem?_eq_some_iff.1 Z4).1
     have qq:=hid (Z7c.start HB.out vq.out tk.out HC.out Z4 uX mw);have sx:((k0:Int) == -1)=false:=by rw [beq_eq_false_iff_ne]; omega
     have Z2:IntKind.i64.wrap ((k0:Int) + 1)=(k0:Int) + 1:=Q3b _ (by omega) (by omega)
     clear Z9 Z4 uX mw;go_wp2
     go_loopw [5,6] (fun iv jv wr=>∃ (i J:Nat) (cur':Array Value),i < J /\ J <= L /\ iv=.int .i64 i /\ jv=.int .i64 J /\ Z7c w wr g cur cur' ps t J i) (fun _ jv _=>L - (intOf jv).toNat)
     case atStart=>exact ⟨k0,k0 + 1,cur,by omega,by omega,rfl,by go_num,qq.out⟩
     case round =>
      obtain ⟨i,J,cur',Wr,Vr,rfl,rfl,bZ⟩:=hrel;have HD:=hid bZ;clear bZ
      by_cases Tq:J < L
      . have fl:(J:Int) < L:=by omega
        have J1:(i:Int) < L:=by omega
        have aZ:J < ps.length:=by rw [HL.out]; exact Tq
        have Y4:Hid (ps[J]?=some ps[J]):=hid (List.getElem?_eq_getElem aZ);have Xq:∀ m,m < 4 -> wr.cell? ⟨g,J * 4 + m,none⟩=(Q3f ps[J])[m]?:=fun m hm=>by
         rw [HD.out.blk.cell,HD.out.rest _ (by omega),<- HB.out.cell]
         exact X3l HB.out tk.out aZ hm
        have e0:=Xq 0 (by omega)
        have e1:=Xq 1 (by omega)
        have e2:=Xq 2 (by omega)
        have e3:=Xq 3 (by omega)
        obtain ⟨A4,n4,c4,qx⟩:=HD.out.closed.shape (List.getElem_mem aZ);have bj:=hid (Z5z HD.out.closed (List.getElem_mem aZ));have ZK:=hid (fun W=>HT.out W W ps[J].1 A4 n4 c4 (Ext.refl _));obtain ⟨q,hq⟩:∃ q,t ps[J].1=q:=⟨_,rfl⟩;have HQ:=hid hq;rw [hq] at ZK;obtain ⟨qk,rz⟩:∃ z,ps[J]=z:=⟨_,rfl⟩;rw [rz] at e0 e1 e2 e3 qx ZK HQ Y4 bj;obtain ⟨⟨x1,x2,x3,x4⟩,xv⟩:=qk;replace qx:xv=.slice A4 n4 c4:=qx;subst qx;unfold Z9e at ZK;dsimp only at ZK;simp only [Q3f,List.getElem?_cons_zero,List.getElem?_cons_succ] at e0 e1 e2 e3;rw [Nat.add_zero] at e0;have yq:=Ext.box wr (.cells #[.int .i64 x1,.int .i64 x2,.int .i64 x3,.slice A4 n4 c4] 159);have K3:=Blk.made wr 159 #[.int .i64 x1,.int .i64 x2,.int .i64 x3,.slice A4 n4 c4];have zj:=hid yq;have Dg:=hid K3;have d0:=(K3).cell 0;have d1:=(K3).cell 1;have d2:=(K3).cell 2;have d3:=(K3).cell 3;simp only [Go.Tw.gA,Go.Tw.gB,Go.Tw.gC] at d0 d1 d2 d3;clear Xq hq rz yq K3 aZ
        go_light
        go_wp2_with (refine (ZK.out _).mono ?_; rintro e w9 ⟨rfl,kx⟩; refine halted ?_);have ij:=hid (zj.out.trans kx);have YK:=Dg.out.ext kx;have aW:=hid (HD.out.ext ij.out);have f0:=(YK).cell 0;have f1:=(YK).cell 1;have f2:=(YK).cell 2;have f3:=(YK).cell 3;simp only [Go.Tw.gA,Go.Tw.gB,Go.Tw.gC] at f0 f1 f2 f3;clear kx YK d0 d1 d2 d3 e0 e1 e2 e3;unfold Q1o;cases q with
        | true =>
          have Fy:=hid (aW.out.skip Y4.out HQ.out);go_wp2;go_roundw
          case rel=>exact ⟨i,J + 1,cur',by omega,by omega,rfl,by go_num,Fy.out⟩
          case measure=>simp [intOf]; omega
        | false =>
          have Eg:Hid (i * 4 + 4 <= cur'.size):=hid (by rw [aW.out.size,uz.out]; omega)
          go_wp2_with (refine Q1r rfl ?_; refine X7c _ _ 159 rfl X9g (g:=g) (off:=i * 4) (by go_simp) (vs:=#[.int .i64 x1,.int .i64 x2,.int .i64 x3,.slice A4 n4 c4]) (by go_simp) aW.out.blk Eg.out rfl bj.out ?_; intro vv w8 Wf C5 Vf; refine halted ?_)
          have Fy:=hid (aW.out.put Y4.out HQ.out (by omega) uz.out (by rw [HL.out]; exact Kq) Wf (C5 0 (Nat.zero_le _)) Vf)
          clear Wf C5 Vf f0 f1 f2 f3;unfold Q1o;go_wp2;go_roundw
          case rel=>exact ⟨i + 1,J + 1,_,by omega,by omega,by go_num,by go_num,Fy.out⟩
          case measure=>simp [intOf]; omega
      . have Um:J=L:=by omega
        subst Um;have t1:(i:Int) <= (J:Int):=by omega
        have t2:¬ J < i:=by omega
        have t3:¬ Qq=i:=by omega
        have t4:¬ Qq < i:=by omega
        have t5:¬ Qq < J:=by omega
        have Eg:Hid (i * 4 + (Builtin.zeroCells (Value.agg #[.int .i64 0,.int .i64 0,.int .i64 0,.slice none 0 0]).cells (J - i)).size <= cur'.size):=hid (by
         rw [Z7t,HD.out.size,uz.out]; omega)
        go_wp2_with (refine X2g rfl _ 160 159 rfl underlying160 (show 0 < J - i by omega) rfl HD.out.blk _ K0h (Z9n _) Eg.out ?_; intro w9 Fj Pj cj; refine halted ?_)
        have Cg:=hid Fj;have Tm:=hid (X1j HD.out.grown (Pj 0 (Nat.zero_le _)) cj);have fy:=hid (HD.out.closed.off HD.out.blk fun k _ hk=>cj k hk);clear Fj Pj cj;unfold Q1o;go_wp2;go_ret;have Fq:=HD.out.len;have Py:=HD.out.head;rw [show ps.take J=ps from List.take_of_length_le (by rw [HL.out]; exact Nat.le_refl _)] at Fq Py
        refine ⟨_,rfl,⟨?_,.inr ⟨g,Qq,_,by rw [Fq]; rfl,eQ.out,Cg.out,by rw [Fq]; omega,Ma.out,by rw [X4m,HD.out.size,uz.out],?_⟩⟩,fy.out.sub fun q hq=>(List.mem_filter.1 hq).1,Tm.out,fun A n c h=>by cases h; rw [Fq]; rfl⟩
        . exact Q5s Q4t _
        . rw [Fq,<- Py]
          apply List.ext_getElem?
          intro k;have hf:=Eg.out;rw [<- Array.length_toList] at hf;rw [List.getElem?_take,List.getElem?_take,Array.getElem?_toList,Array.getElem?_toList,Q5q _ _ _ _ hf]
          by_cases hk:k < i * 4
          . rw [if_pos hk,if_pos hk,if_neg (by omega)]
          . rw [if_neg hk,if_neg hk]
end Go.Proofs
namespace Go.Flow
open Go.RowKit Go.Tw
structure Z0m (Rel:World -> World -> Prop) where
 D:(Nat -> Value) -> World -> Prop
 mono:∀ v w w',Rel w w' -> D v w -> D v w'
def Z0m.is {Rel:World -> World -> Prop} (j:Nat) (e:(Nat -> Value) -> Value):Z0m Rel:=⟨fun v _=>v j=e v,fun _ _ _ _ h=>h⟩
def Z0m.c {Rel:World -> World -> Prop} (j:Nat) (x:Value):Z0m Rel:=Z0m.is j fun _=>x
def Z0m.none {Rel:World -> World -> Prop}:Z0m Rel:=⟨fun _ _=>True,fun _ _ _ _ _=>trivial⟩
def J9d (Rel:World -> World -> Prop) (P:Program) (pre:Nat -> List Nat) (D:Nat -> (Nat -> Value) -> World -> Prop) (E:(Nat -> Value) -> World -> World -> Prop) (k:Kind) (o:Oper) (j:Nat) (b:Act) (v:Nat -> Value) (w1 w:World):Prop :=
 match k with
 | .plain=>∃ u,(∀ w,(execOp b.eval o).run P w=.ok (.value u) w) /\ D j (mask pre j (upd v j u)) w1
 | .world=>∀ K:Value -> World -> Prop,(∀ u w',Rel w1 w' -> D j (mask pre j (upd v j u)) w' -> K u w') -> gives P K ((execOp b.eval o).run P w1)
 | .last=>∀ K:Value -> World -> Prop,(∀ u w',E (mask pre j (upd v j u)) w1 w' -> K u w') -> gives P K ((execOp b.eval o).run P w)
theorem J6e {Rel:World -> World -> Prop} {P:Program} {ops:Array Oper} {pre:Nat -> List Nat} {D:Nat -> (Nat -> Value) -> World -> Prop} {T E:(Nat -> Value) -> World -> World -> Prop} {k:Kind} {o:Oper} {j:Nat} {b:Act} {v:Nat -> Value} {w1:World}
    (hk:k ≠ .last) (h:Guarded ops o b (J9d Rel P pre D E k o j b v w1 w1) (Pass pre D E k j v w1 w1)):vc P ops pre Rel D T E k o j b v w1:=by
 have h':(Region.wanted o (yielded ops b.tmps)=true /\ J9d Rel P pre D E k o j b v w1 w1) ∨ (Region.wanted o (yielded ops b.tmps)=false /\ Pass pre D E k j v w1 w1):=by
  unfold Guarded at h;cases hg:o.guard with
  | none=>rw [hg] at h; exact .inl ⟨by simp [Region.wanted,hg],h⟩
  | some g=>rw [hg] at h; exact h
 cases k with
 | plain=>exact h'.imp (fun ⟨a,u,b,c⟩=>⟨a,u,b,c⟩) id
 | world=>exact h'.imp (fun ⟨a,b⟩=>⟨a,b _ fun u w' h1 h2=>⟨h1,h2⟩⟩) id
 | last=>exact absurd rfl hk
theorem J4x {Rel:World -> World -> Prop} {P:Program} {ops:Array Oper} {pre:Nat -> List Nat} {D:Nat -> (Nat -> Value) -> World -> Prop} {T E:(Nat -> Value) -> World -> World -> Prop} {o:Oper} {j:Nat} {b:Act} {v:Nat -> Value} {w1:World}
    (h:∀ w,T v w1 w -> Guarded ops o b (J9d Rel P pre D E .last o j b v w1 w) (Pass pre D E .last j v w1 w)):vc P ops pre Rel D T E .last o j b v w1:=by
 intro w hT;have h:=h w hT;have h':(Region.wanted o (yielded ops b.tmps)=true /\ J9d Rel P pre D E .last o j b v w1 w) ∨ (Region.wanted o (yielded ops b.tmps)=false /\ Pass pre D E .last j v w1 w):=by
  unfold Guarded at h;cases hg:o.guard with
  | none=>rw [hg] at h; exact .inl ⟨by simp [Region.wanted,hg],h⟩
  | some g=>rw [hg] at h; exact h
 exact h'.imp (fun ⟨a,b⟩=>⟨a,b _ fun u w' h1=>h1⟩) id
section
variable {P:Program} {id:Nat} {Q:Exit -> Act -> World -> Prop} {a0:Act} {w:World} {ops:List Oper}
end
end Go.Flow
namespace Go.Flow
open Go.RowKit Go.Tw
section
variable {P:Program} {ops:Array Oper} {pre:Nat -> List Nat}
theorem Y3a (j0:Nat) {Rel0:World -> World -> Prop} (B5:∀ w,Rel0 w w) (La:∀ a b c,Rel0 a b -> Rel0 b c -> Rel0 a c) (news:List Nat) (tail:List Nat) (kind:Nat -> Kind) {Rel:World -> World -> Prop} {D:Nat -> (Nat -> Value) -> World -> Prop} {E:Nat -> (Nat -> Value) -> World -> World -> Prop}
    {id:Nat} {Q:Exit -> Act -> World -> Prop} {a0:Act} {w:World} (hm:P.follows .mixedOrders=true) (Ej:Ok ops pre)
    (Bj:∀ i (h:i < tail.length),tail[i] < ops.size) (uj:∀ i k (hi:i < tail.length) (hk:k < tail.length),i < k -> tail[i] ∈ pre tail[k])
    (Dx:∀ j,j < ops.size -> j ∉ tail -> ∀ k ∈ pre j,k ∉ tail) (Nk:∀ j,j < ops.size -> (kind j=.last ↔ j ∈ tail)) (dj:∀ j,j < ops.size -> kind j=.world -> ∀ s ∈ tail,j ∈ pre s)
    (ZY:∀ a b,Rel0 a b -> Rel a b) (Tj:∀ w,Rel w w) (vz:∀ a b c,Rel a b -> Rel b c -> Rel a c) (Ny:∀ k,k < ops.size -> ∀ v w w',Rel w w' -> D k v w -> D k v w')
    (Jz:∀ j o,ops[j]?=some o -> j ∉ tail -> j ≠ j0 -> ∀ v w1,Rel w.drew w1 -> (∀ k ∈ pre j,D k (mask pre k v) w1) -> vc P ops pre Rel0 D (fun _ _ _=>False) (fun _ _ _=>False) (kind j) o j (act (fun k=>decide (k < j)) v ops.toList 0 a0) v w1)
    (Ka:∀ o,ops[j0]?=some o -> j0 ∉ tail -> ∀ v w1,Rel0 w.drew w1 -> (∀ k ∈ pre j0,D k (mask pre k v) w1) -> vc P ops pre Rel D (fun _ _ _=>False) (fun _ _ _=>False) (kind j0) o j0 (act (fun k=>decide (k < j0)) v ops.toList 0 a0) v w1)
    (Zy:∀ c (hc:c < tail.length) o,ops[tail[c]]?=some o -> ∀ v w1,Rel w.drew w1 -> (∀ k ∈ pre tail[c],k ∉ tail -> D k (mask pre k v) w1) -> vc P ops pre Rel D (Tail pre tail E c) (E c) .last o tail[c] (act (fun k=>decide (k < tail[c])) v ops.toList 0 a0) v w1)
    (Jj:∀ j ∈ news,j < ops.size /\ kind j=.world /\ ∀ o,ops[j]?=some o -> Made P o) (K4:∀ a b,Rel a b -> a.heap.size <= b.heap.size)
    (Xj:∀ v w1 w',Rel w.drew w1 -> K1s news v -> (∀ k,k < ops.size -> k ∉ tail -> D k (mask pre k v) w1) -> Tail pre tail E tail.length v w1 w' -> Q .normal (act (fun _=>true) v ops.toList 0 a0) w') :
    (Code.region id ops true).wp P Q a0 w:=by
 refine wp_region_any hm ?_;have Nx:∀ (X:Nat -> Bool),(∀ j o,ops[j]?=some o -> X j=true -> ∀ e ∈ o.after,Region.binds .any e=true -> X e.on=true) ->
     ∀ j o,ops[j]?=some o -> (∀ e ∈ o.after,Region.binds .any e=true -> X e.on=true) -> ∀ i ∈ pre j,X i=true:=by
  intro X hX j
  induction j using Nat.strongRecOn with
  | _ j ih =>
    intro o ho oq i hi;obtain ⟨e,he,hb,hc⟩:=Ej.pre j o ho i hi
    rcases hc with rfl | hc
    . exact oq e he hb
    . have Tq:=Ej.edge j o ho e he hb
      have hj:j < ops.size:=(Array.getElem?_eq_some_iff.1 ho).1;have Px:ops[e.on]?=some ops[e.on]:=Array.getElem?_eq_getElem (by omega)
      exact ih e.on Tq _ Px (hX e.on _ Px (oq e he hb)) i hc
 have main:∀ (fuel:Nat) (listed:Array Bool) (a:Act) (wc:World),listed.size=ops.size -> left ops.size listed <= fuel ->
     (∀ j o,ops[j]?=some o -> listed.getD j false=true -> ∀ e ∈ o.after,Region.binds .any e=true -> listed.getD e.on false=true) ->
     (∃ v w1 c,Inv ops pre Rel D E tail news a0 w.drew (fun k=>listed.getD k false) v w1 c a wc /\ (listed.getD j0 false=false -> Rel0 w.drew w1)) -> wpAny P .any ops Q fuel listed a wc:=by
  intro fuel;have Cz:∀ (listed:Array Bool) (a:Act) (wc:World),listed.size=ops.size ->
      (∃ v w1 c,Inv ops pre Rel D E tail news a0 w.drew (fun k=>listed.getD k false) v w1 c a wc /\ (listed.getD j0 false=false -> Rel0 w.drew w1)) -> Region.ready .any ops listed=[] -> Q .normal a wc:=by
   rintro listed a wc pq ⟨v,w1,c,hI,_⟩ hr;have oq:∀ j,j < ops.size -> listed.getD j false=true:=by
    intro j
    induction j using Nat.strongRecOn with
    | _ j ih =>
      intro hj;cases hx:listed.getD j false with
      | true=>rfl
      | false =>
        have tq:j ∈ Region.ready .any ops listed:=mem_ready.2 ⟨by rw [Q3w (by omega)]; exact hx,ops[j],Array.getElem?_eq_getElem hj,fun e he hb =>
         have Tq:=Ej.edge j _ (Array.getElem?_eq_getElem hj) e he hb
         ih e.on Tq (by omega)⟩
        rw [hr] at tq;cases tq
   have J4:a=act (fun _=>true) v ops.toList 0 a0:=by
    rw [hI.act];refine X3b (by rw [Q3g,Q3g]) fun t=>Q6y _ _ _ _ t _ 0 _ _ rfl rfl fun k o ho _=>⟨?_,fun _=>rfl⟩
    rw [Nat.zero_add];exact oq k (by simpa using (List.getElem?_eq_some_iff.1 ho).1)
   rw [J4];refine Xj v w1 wc hI.rel (fun i hi k hk hne=>hI.newNe i hi k hk hne (oq i (Jj i hi).1) (oq k (Jj k hk).1)) (fun k hk Cx=>hI.facts k (oq k hk) Cx) ?_;have hl:=hI.last;have hc:c=tail.length:=by
    rcases Nat.lt_or_ge c tail.length with h | h
    . have h1:listed.getD tail[c] false=false:=hI.after c h (Nat.le_refl _)
      have h2:=oq _ (Bj c h);rw [h2] at h1; cases h1
    . have:=hI.count; omega
   rw [hc] at hl;exact hl
  induction fuel with
  | zero =>
    intro listed a wc pq My _ hI;have hr:Region.ready .any ops listed=[]:=by
     refine List.eq_nil_iff_forall_not_mem.2 fun j hj=>?_;obtain ⟨Fz,o,ho,_⟩:=mem_ready.1 hj;have Tq:j < ops.size:=(Array.getElem?_eq_some_iff.1 ho).1;have:=X1q pq Tq Fz;omega
    exact ⟨hr,Cz listed a wc pq hI hr⟩
  | succ fuel ih =>
    intro listed a wc pq My hcl hI;refine ⟨Cz listed a wc pq hI,fun j hj=>?_⟩;obtain ⟨v,w1,c,hI,hO⟩:=hI;obtain ⟨Fz,o,ho,oq⟩:=mem_ready.1 hj;have Tq:j < ops.size:=(Array.getElem?_eq_some_iff.1 ho).1;have Zz:listed.getD j false=false:=by rw [<- Q3w (by omega)]; exact Fz
    have Tz:=Nx (fun k=>listed.getD k false) hcl j o ho oq;have N3:ops.toList[j]?=some o:=by simpa using ho
    have Ux:∀ k,k < ops.size -> listed.getD k false=true -> j ∉ pre k:=by
     intro k hk hx tq;have Px:ops[k]?=some ops[k]:=Array.getElem?_eq_getElem hk;have h2:listed.getD j false=true:=Nx (fun k=>listed.getD k false) hcl k _ Px (hcl k _ Px hx) j tq;rw [Zz] at h2; cases h2
    have Sz:∀ k o',j < k -> ops[k]?=some o' -> listed.getD k false=true -> o.apart ops o'=true:=by
     intro k o' hk Px hx
     rcases Ej.apart j k o o' hk ho Px with h | h
     . exact h
     . exact absurd h (Ux k (Array.getElem?_eq_some_iff.1 Px).1 hx)
    have Rz:∀ t ∈ o.looksAt ops,a.tmps[t]?=(act (fun k=>decide (k < j)) v ops.toList 0 a0).tmps[t]?:=by
     intro t ht;rw [hI.act];refine Q6y _ _ _ _ t _ 0 _ _ rfl rfl fun k o' Px hd=>?_;rw [Nat.zero_add];refine ⟨?_,fun _=>rfl⟩;have Ly:ops[k]?=some o':=by simpa using Px
     rcases Nat.lt_trichotomy k j with hk | hk | hk
     . simp only [hk,decide_true]
       rcases Ej.apart k j o' o hk Ly ho with h | h
       . exact absurd ht ((Oper.apart_spec h).1 t hd)
       . exact Tz k h
     . subst hk
       simp [Zz]
     . have G4:¬ k < j:=by omega
       simp only [G4,decide_false];cases hx:listed.getD k false with
       | false=>rfl
       | true=>exact absurd ht ((Oper.apart_spec (Sz k o' hk Ly hx)).2.2 t hd)
    have Ax:execOp a.eval o=execOp (act (fun k=>decide (k < j)) v ops.toList 0 a0).eval o:=execOp_congr o (fun cs b=>Ej.sel j o cs b ho) (eval_congr o Rz);have Ky:Region.wanted o (yielded ops a.tmps)=Region.wanted o (yielded ops (act (fun k=>decide (k < j)) v ops.toList 0 a0).tmps):=X0i o Rz;have Ez:∀ u,a.put o.dst u=act (fun k=>if k=j then true else listed.getD k false) (upd v j u) ops.toList 0 a0:=by
     intro u;rw [hI.act];refine Y6v N3 Zz fun k o' hk Px hx=>?_;cases hd:o.dst with
     | none=>exact .inr rfl
     | some d=>exact .inl ((Oper.apart_spec (Sz k o' hk (by simpa using Px) hx)).2.1 d hd)
    have hX:(fun k=>(listed.setIfInBounds j true).getD k false)=fun k=>if k=j then true else listed.getD k false:=by
     funext k
     split
     . rename_i hk; subst hk; simp [pq,Tq]
     . rename_i hk; exact getD_set_ne false (Ne.symm hk)
    have tj:j ∈ tail -> ∃ h:c < tail.length,tail[c]=j:=by
     intro tq;obtain ⟨i,hi,he⟩:=List.getElem_of_mem tq;have Te:c <= i:=by
      rcases Nat.lt_or_ge i c with h | h
      . have:=hI.before i hi h
        simp only [he] at this;rw [Zz] at this; cases this
      . exact h
     have:c=i:=by
      rcases Nat.lt_or_ge c i with h | h
      . have hx:=Tz tail[c] (by rw [<- he]; exact uj c i (by omega) hi h)
        have h1:=hI.after c (by omega) (Nat.le_refl _)
        rw [hx] at h1; cases h1
      . omega
     subst this;exact ⟨hi,he⟩
    have Wj:∀ (u:Value) (w1' wc':World) (c':Nat),Rel w1 w1' -> (j ≠ j0 -> Rel0 w1 w1') -> (j ∉ tail -> D j (mask pre j (upd v j u)) w1') -> (j ∉ tail -> c'=c) -> (j ∈ tail -> c'=c + 1) -> (j ∈ news -> ∃ g,u=.pointer (some ⟨g,0,none⟩) /\ w1.heap.size <= g /\ g < w1'.heap.size) ->
        Tail pre tail E c' (upd v j u) w1' wc' -> wpAny P .any ops Q fuel (listed.setIfInBounds j true) (a.put o.dst u) wc':=by
     intro u w1' wc' c' hrel XK hD Rx Xx hN hE;refine ih _ _ _ (by simpa using pq) (by have:=X1q pq Tq Fz; omega) (fun k ok Rv hx e he hb=>?_) ⟨upd v j u,w1',c',⟨by rw [hX]; exact Ez u,vz _ _ _ hI.rel hrel,fun k hx Cx=>?_,?_,fun i hi hic=>?_,fun i hi hic=>?_,hE,fun i hi hx=>?_,fun i hi k hk hne hx hy=>?_⟩,fun hx=>?_⟩
     . by_cases Kz:k=j
       . subst Kz
         rw [ho] at Rv;cases Rv;exact getD_set_true (oq e he hb)
       . rw [getD_set_ne false (Ne.symm Kz)] at hx
         exact getD_set_true (hcl k ok Rv hx e he hb)
     . rw [congrFun hX k] at hx
       by_cases Kz:k=j
       . subst Kz; exact hD Cx
       . rw [if_neg Kz] at hx
         have Jy:k < ops.size:=by
          rcases Nat.lt_or_ge k ops.size with h | h
          . exact h
          . rw [<- pq] at h; simp [Array.getElem?_eq_none h] at hx
         rw [X1c (Ne.symm Kz) (Ux k Jy hx)];exact Ny k Jy _ _ _ hrel (hI.facts k hx Cx)
     . by_cases kq:j ∈ tail
       . obtain ⟨h,_⟩:=tj kq
         rw [Xx kq]; omega
       . rw [Rx kq]; exact hI.count
     . rw [congrFun hX]
       by_cases hij:tail[i]=j
       . rw [if_pos hij]
       . rw [if_neg hij]
         by_cases kq:j ∈ tail
         . obtain ⟨h,he⟩:=tj kq
           rw [Xx kq] at hic;have:i ≠ c:=fun e=>hij (by subst e; exact he)
           exact hI.before i hi (by omega)
         . rw [Rx kq] at hic; exact hI.before i hi hic
     . rw [congrFun hX]
       by_cases kq:j ∈ tail
       . obtain ⟨h,he⟩:=tj kq
         rw [Xx kq] at hic;rw [if_neg (fun e=>by
          have h1:=uj c i h hi (by omega)
          rw [e,he] at h1;obtain ⟨e',RZ,Mk,Wg⟩:=Ej.pre j o ho j h1;have hl:=Ej.edge j o ho e' RZ Mk;have h2:listed.getD j false=true:=Tz j h1;rw [Zz] at h2; cases h2)]
         exact hI.after i hi (by omega)
       . rw [Rx kq] at hic
         rw [if_neg (fun e=>kq (by rw [<- e]; exact List.getElem_mem hi))]
         exact hI.after i hi hic
     . rw [congrFun hX i] at hx
       by_cases hij:i=j
       . subst hij
         obtain ⟨g,hg,_,h2⟩:=hN hi;exact ⟨g,by simp [upd,hg],h2⟩
       . rw [if_neg hij] at hx
         obtain ⟨g,hg,h2⟩:=hI.newIn i hi hx;exact ⟨g,by simp [upd,hij,hg],Nat.lt_of_lt_of_le h2 (K4 _ _ hrel)⟩
     . rw [congrFun hX i] at hx
       rw [congrFun hX k] at hy
       by_cases hij:i=j
       . subst hij
         rw [if_neg (Ne.symm hne)] at hy;obtain ⟨g,hg,h1,_⟩:=hN hi;obtain ⟨g',Lk,h2⟩:=hI.newIn k hk hy;have e1:upd v i u i=u:=by simp [upd]
         have e2:upd v i u k=v k:=by simp [upd,Ne.symm hne]
         rw [e1,e2,hg,Lk];intro he;injection he with he;injection he with he;injection he with he;omega
       . rw [if_neg hij] at hx
         by_cases Kz:k=j
         . subst Kz
           obtain ⟨g,hg,h1,_⟩:=hN hk;obtain ⟨g',Lk,h2⟩:=hI.newIn i hi hx;have e1:upd v k u k=u:=by simp [upd]
           have e2:upd v k u i=v i:=by simp [upd,hij]
           rw [e1,e2,hg,Lk];intro he;injection he with he;injection he with he;injection he with he;omega
         . rw [if_neg Kz] at hy
           have e1:upd v j u i=v i:=by simp [upd,hij]
           have e2:upd v j u k=v k:=by simp [upd,Kz]
           rw [e1,e2];exact hI.newNe i hi k hk hne hx hy
     . rw [congrFun hX j0] at hx
       by_cases hj0:j0=j
       . rw [if_pos hj0] at hx; cases hx
       . rw [if_neg hj0] at hx
         exact La _ _ _ (hO hx) (XK (Ne.symm hj0))
    have Sj:j ∉ tail -> ∀ u,Tail pre tail E c (upd v j u) w1 wc:=by
     intro kq u;have hl:=hI.last;cases c with
     | zero=>exact hl
     | succ c =>
       have my:c < tail.length:=by have:=hI.count; omega
       change E c (mask pre (tail.getD c 0) v) w1 wc at hl;show E c (mask pre (tail.getD c 0) (upd v j u)) w1 wc;have e:tail.getD c 0=tail[c]:=by simp [my]
       rw [e] at hl ⊢;rw [X1c (fun h=>kq (by rw [h]; exact List.getElem_mem my)) (Ux _ (Bj c my) (hI.before c my (by omega)))]
       exact hl
    have Kk:kind j ≠ .world -> j ∉ news:=fun h1 h2=>h1 (Jj j h2).2.1;have lz:Region.wanted o (yielded ops (act (fun k=>decide (k < j)) v ops.toList 0 a0).tmps)=false -> j ∉ news:=fun h1 h2=>by
     have h3:=((Jj j h2).2.2 o ho).1;simp [Region.wanted,h3] at h1
    unfold wpOp;simp only [ho];rw [Ky]
    by_cases kq:j ∈ tail
    . obtain ⟨hc,he⟩:=tj kq
      have hv:=Zy c hc o (by rw [he]; exact ho) v w1 hI.rel (fun k hk MQ=>hI.facts k (Tz k (by rw [<- he]; exact hk)) MQ) wc hI.last
      rw [he] at hv;have hT:∀ u w',E c (mask pre j (upd v j u)) w1 w' -> Tail pre tail E (c + 1) (upd v j u) w1 w':=by
       intro u w' h;show E c (mask pre (tail.getD c 0) (upd v j u)) w1 w';have e:tail.getD c 0=j:=by simp [hc,he]
       rw [e]; exact h
      rcases hv with ⟨Vj,hg⟩ | ⟨Bz,hD⟩
      . rw [if_pos Vj]
        refine .inl ?_;unfold Oper.wp;rw [Ax];exact Q2x (Q5r (fun u w' h=>Wj u w1 w' (c + 1) (Tj _) (fun _=>B5 _) (fun h=>absurd kq h) (fun h=>absurd kq h) (fun _=>rfl) (fun hn=>absurd hn (Kk (by rw [(Nk j Tq).2 kq]; simp))) (hT u w' h)) hg)
      . rw [if_neg (by rw [Bz]; simp)]
        exact Wj undef w1 wc (c + 1) (Tj _) (fun _=>B5 _) (fun h=>absurd kq h) (fun h=>absurd kq h) (fun _=>rfl) (fun hn=>absurd hn (lz Bz)) (hT _ _ hD)
    . have Tk:∀ k ∈ pre j,D k (mask pre k v) w1:=fun k hk=>hI.facts k (Tz k hk) (Dx j Tq kq k hk)
      by_cases hj0:j=j0
      . subst hj0
        have hv:=Ka o ho kq v w1 (hO Zz) Tk;cases hk:kind j with
        | plain =>
          rw [hk] at hv
          rcases hv with ⟨Vj,u,vx,hD⟩ | ⟨Bz,hD⟩
          . rw [if_pos Vj]
            refine .inl ?_;unfold Oper.wp;rw [Ax,vx wc];exact Wj u w1 wc c (Tj _) (fun _=>B5 _) (fun _=>hD) (fun _=>rfl) (fun h=>absurd h kq) (fun hn=>absurd hn (Kk (by rw [hk]; simp))) (Sj kq u)
          . rw [if_neg (by rw [Bz]; simp)]
            exact Wj undef w1 wc c (Tj _) (fun _=>B5 _) (fun _=>hD) (fun _=>rfl) (fun h=>absurd h kq) (fun hn=>absurd hn (lz Bz)) (Sj kq undef)
        | world =>
          have Az:c=0:=by
           rcases Nat.eq_zero_or_pos c with h | h
           . exact h
           . have h0:0 < tail.length:=by have:=hI.count; omega
             have hx:=hI.before 0 h0 h;exact absurd (dj j Tq hk tail[0] (List.getElem_mem h0)) (Ux _ (Bj 0 h0) hx)
          subst Az;have S1:wc=w1:=hI.last;subst S1;rw [hk] at hv
          rcases hv with ⟨Vj,hg⟩ | ⟨Bz,hD⟩
          . rw [if_pos Vj]
            refine .inl ?_;unfold Oper.wp;rw [Ax]
            by_cases hn:j ∈ news
            . obtain ⟨cc,vx⟩:=((Jj j hn).2.2 o ho).2 (act (fun k=>decide (k < j)) v ops.toList 0 a0).eval wc
              rw [vx] at hg ⊢;exact Q2x (Wj _ _ _ 0 hg.1 (fun h=>absurd rfl h) (fun _=>hg.2) (fun _=>rfl) (fun h=>absurd h kq) (fun _=>⟨_,rfl,Nat.le_refl _,by rw [World.size_alloc]; exact Nat.lt_succ_self _⟩) rfl)
            . exact Q2x (Q5r (fun u w' h=>Wj u w' w' 0 h.1 (fun h'=>absurd rfl h') (fun _=>h.2) (fun _=>rfl) (fun h=>absurd h kq) (fun h=>absurd h hn) rfl) hg)
          . rw [if_neg (by rw [Bz]; simp)]
            exact Wj undef wc wc 0 (Tj _) (fun _=>B5 _) (fun _=>hD) (fun _=>rfl) (fun h=>absurd h kq) (fun hn=>absurd hn (lz Bz)) rfl
        | last=>exact absurd ((Nk j Tq).1 hk) kq
      . skip
        have hv:=Jz j o ho kq hj0 v w1 hI.rel Tk;cases hk:kind j with
        | plain =>
          rw [hk] at hv
          rcases hv with ⟨Vj,u,vx,hD⟩ | ⟨Bz,hD⟩
          . rw [if_pos Vj]
            refine .inl ?_;unfold Oper.wp;rw [Ax,vx wc];exact Wj u w1 wc c (Tj _) (fun _=>B5 _) (fun _=>hD) (fun _=>rfl) (fun h=>absurd h kq) (fun hn=>absurd hn (Kk (by rw [hk]; simp))) (Sj kq u)
          . rw [if_neg (by rw [Bz]; simp)]
            exact Wj undef w1 wc c (Tj _) (fun _=>B5 _) (fun _=>hD) (fun _=>rfl) (fun h=>absurd h kq) (fun hn=>absurd hn (lz Bz)) (Sj kq undef)
        | world =>
          have Az:c=0:=by
           rcases Nat.eq_zero_or_pos c with h | h
           . exact h
           . have h0:0 < tail.length:=by have:=hI.count; omega
             have hx:=hI.before 0 h0 h;exact absurd (dj j Tq hk tail[0] (List.getElem_mem h0)) (Ux _ (Bj 0 h0) hx)
          subst Az;have S1:wc=w1:=hI.last;subst S1;rw [hk] at hv
          rcases hv with ⟨Vj,hg⟩ | ⟨Bz,hD⟩
          . rw [if_pos Vj]
            refine .inl ?_;unfold Oper.wp;rw [Ax]
            by_cases hn:j ∈ news
            . obtain ⟨cc,vx⟩:=((Jj j hn).2.2 o ho).2 (act (fun k=>decide (k < j)) v ops.toList 0 a0).eval wc
              rw [vx] at hg ⊢;exact Q2x (Wj _ _ _ 0 (ZY _ _ hg.1) (fun _=>hg.1) (fun _=>hg.2) (fun _=>rfl) (fun h=>absurd h kq) (fun _=>⟨_,rfl,Nat.le_refl _,by rw [World.size_alloc]; exact Nat.lt_succ_self _⟩) rfl)
            . exact Q2x (Q5r (fun u w' h=>Wj u w' w' 0 (ZY _ _ h.1) (fun _=>h.1) (fun _=>h.2) (fun _=>rfl) (fun h=>absurd h kq) (fun h=>absurd h hn) rfl) hg)
          . rw [if_neg (by rw [Bz]; simp)]
            exact Wj undef wc wc 0 (Tj _) (fun _=>B5 _) (fun _=>hD) (fun _=>rfl) (fun h=>absurd h kq) (fun hn=>absurd hn (lz Bz)) rfl
        | last=>exact absurd ((Nk j Tq).1 hk) kq
 refine main ops.size _ a0 _ (by simp) ?_ (fun j o _ hx=>?_) ⟨fun _=>undef,w.drew,0,⟨?_,Tj _,fun k hx=>?_,Nat.zero_le _,fun i _ h=>absurd h (Nat.not_lt_zero _),fun i _ _=>?_,rfl,fun i _ hx=>?_,fun i _ _ _ _ hx=>?_⟩,fun _=>B5 _⟩
 . exact Nat.le_trans (List.countP_le_length) (by simp)
 . have:=Q3r ops.size j
   rw [this] at hx; cases hx
 . refine (X3b (by rw [Q3g]) fun t=>?_)
   have:∀ (l:List Oper) (i:Nat) (a:Act),act (fun k=>(Array.replicate ops.size false).getD k false) (fun _=>undef) l i a=a:=by
    intro l; induction l with
    | nil=>intro i a; rfl
    | cons o l ih=>intro i a; rw [act,ih,Q3r]; rfl
   rw [this]
 . have:=Q3r ops.size k
   rw [this] at hx; cases hx
 . exact Q3r ops.size _
 . have:=Q3r ops.size i
   rw [this] at hx; cases hx
 . have:=Q3r ops.size i
   rw [this] at hx; cases hx
end
def X1w (j0:Nat) (Rel0 Rel:World -> World -> Prop) (P:Program) (ops:Array Oper) (pre:Nat -> List Nat) (tail:List Nat) (w0:World) (D:Nat -> (Nat -> Value) -> World -> Prop):List ((Nat -> Value) -> World -> World -> Prop) -> ((Nat -> Value) -> World -> World -> Prop) -> List Oper -> List Kind -> List Nat -> ((Nat -> Value) -> Act) -> Prop
 | El,T,o :: l,k :: kl,j :: jl,b =>
   match k,El with
   | .last,E :: El=>(∀ v w1,Rel w0 w1 -> Facts pre D v w1 ((pre j).filter fun i=>!tail.contains i) (∀ w,T v w1 w -> ∀ bb,bb=b v -> Guarded ops o bb (J9d Rel P pre D E .last o j bb v w1 w) (Pass pre D E .last j v w1 w))) /\
      X1w j0 Rel0 Rel P ops pre tail w0 D El (fun v w1 w=>E (mask pre j v) w1 w) l kl jl (fun v=>(b v).put o.dst (v j))
   | .last,[]=>False
   | k,El=>(∀ v w1,(if j=j0 then Rel0 else Rel) w0 w1 -> Facts pre D v w1 (pre j) (∀ bb,bb=b v -> Guarded ops o bb (J9d (if j=j0 then Rel else Rel0) P pre D (fun _ _ _=>False) k o j bb v w1 w1) (Pass pre D (fun _ _ _=>False) k j v w1 w1))) /\ X1w j0 Rel0 Rel P ops pre tail w0 D El T l kl jl (fun v=>(b v).put o.dst (v j))
 | _,_,_,_,_,_=>True
theorem Y5t {j0:Nat} {Rel0 Rel:World -> World -> Prop} {P:Program} {ops:Array Oper} {pre:Nat -> List Nat} {tail:List Nat} {w0:World} {D:Nat -> (Nat -> Value) -> World -> Prop} :
    ∀ (l:List Oper) (kl:List Kind) (El:List ((Nat -> Value) -> World -> World -> Prop)) (T:(Nat -> Value) -> World -> World -> Prop) (i:Nat) (b:(Nat -> Value) -> Act),kl.length=l.length ->
     X1w j0 Rel0 Rel P ops pre tail w0 D El T l kl (List.range' i l.length) b -> ∀ j o,l[j]?=some o -> lookup kl .plain j ≠ .last -> ∀ v w1,(if i + j=j0 then Rel0 else Rel) w0 w1 ->
     (∀ n ∈ pre (i + j),D n (mask pre n v) w1) -> vc P ops pre (if i + j=j0 then Rel else Rel0) D (fun _ _ _=>False) (fun _ _ _=>False) (lookup kl .plain j) o (i + j) (act (fun _=>true) v (l.take j) i (b v)) v w1
 | [],_,_,_,_,_,_,_,j,_,h,_,_,_,_,_=>by simp at h
 | o :: l,[],_,_,_,_,hk,_,_,_,_,_,_,_,_,_=>by simp at hk
 | o :: l,k :: kl,El,T,i,b,hk,h,j,o',hj,hne,v,w1,hx,hf=>by
   rw [List.length_cons,List.range'_succ] at h;cases j with
   | zero =>
     simp only [List.getElem?_cons_zero,Option.some.injEq] at hj;subst hj;simp only [lookup] at hne ⊢;cases k with
     | last=>exact absurd rfl hne
     | plain=>simp only [X1w] at h; simpa [act] using J6e hne ((h.1 v w1 (by simpa using hx)).out (by simpa using hf) _ rfl)
     | world=>simp only [X1w] at h; simpa [act] using J6e hne ((h.1 v w1 (by simpa using hx)).out (by simpa using hf) _ rfl)
   | succ j =>
     have Qv:∃ El T,X1w j0 Rel0 Rel P ops pre tail w0 D El T l kl (List.range' (i + 1) l.length) (fun v=>(b v).put o.dst (v i)):=by
      cases k with
      | last=>cases El with
        | nil=>simp only [X1w] at h
        | cons E El=>simp only [X1w] at h; exact ⟨_,_,h.2⟩
      | plain=>simp only [X1w] at h; exact ⟨_,_,h.2⟩
      | world=>simp only [X1w] at h; exact ⟨_,_,h.2⟩
     obtain ⟨El',T',h'⟩:=Qv;have:=Y5t l kl El' T' (i + 1) _ (by simpa using hk) h' j o' (by simpa using hj) (by simpa [lookup] using hne) v w1 (by rwa [show i + 1 + j=i + (j + 1) from by omega]) (by rwa [show i + 1 + j=i + (j + 1) from by omega])
     rw [show i + 1 + j=i + (j + 1) from by omega] at this
     simpa [act,lookup] using this
theorem X1p {j0:Nat} {Rel0 Rel:World -> World -> Prop} {P:Program} {ops:Array Oper} {pre:Nat -> List Nat} {tail:List Nat} {w0:World} {D:Nat -> (Nat -> Value) -> World -> Prop} (E:Nat -> (Nat -> Value) -> World -> World -> Prop) :
    ∀ (l:List Oper) (kl:List Kind) (El:List ((Nat -> Value) -> World -> World -> Prop)) (i:Nat) (b:(Nat -> Value) -> Act) (c0:Nat),kl.length=l.length -> tail.drop c0=lasts kl i -> (∀ n,n < (lasts kl i).length -> El[n]?=some (E (c0 + n))) ->
     X1w j0 Rel0 Rel P ops pre tail w0 D El (Tail pre tail E c0) l kl (List.range' i l.length) b -> ∀ n,n < (lasts kl i).length -> ∀ j o,tail[c0 + n]?=some (i + j) -> l[j]?=some o -> ∀ v w1,Rel w0 w1 ->
     (∀ m ∈ pre (i + j),m ∉ tail -> D m (mask pre m v) w1) -> vc P ops pre Rel D (Tail pre tail E (c0 + n)) (E (c0 + n)) .last o (i + j) (act (fun _=>true) v (l.take j) i (b v)) v w1
 | [],[],_,_,_,_,_,_,_,_,n,h,_,_,_,_,_,_,_,_=>by simp [lasts] at h
 | [],_ :: _,_,_,_,_,hk,_,_,_,_,_,_,_,_,_,_,_,_,_=>by simp at hk
 | o :: l,[],_,_,_,_,hk,_,_,_,_,_,_,_,_,_,_,_,_,_=>by simp at hk
 | o :: l,k :: kl,El,i,b,c0,hk,Q1,hE,h,n,hn,j,o',ht,hj,v,w1,hx,hf=>by
   rw [List.length_cons,List.range'_succ] at h;have dq:∀ (kl:List Kind) (i:Nat),∀ x ∈ lasts kl i,i <= x:=by
    intro kl
    induction kl with
    | nil=>intro i x hx; simp [lasts] at hx
    | cons k kl ih => intro i x hx; cases k <;> simp only [lasts, List.mem_cons] at hx
                      . have:=ih _ _ hx; omega
                      . have:=ih _ _ hx; omega
                      . rcases hx with rfl | hx
                        . exact Nat.le_refl _
                        . have:=ih _ _ hx; omega
   have Vg:(lasts (k :: kl) i)[n]?=some (i + j):=by rw [<- Q1,List.getElem?_drop]; exact ht
   have QZ:k ≠ .last -> ∃ j',j=j' + 1 /\ (lasts kl (i + 1))[n]?=some (i + 1 + j'):=by
    intro hne;have e:lasts (k :: kl) i=lasts kl (i + 1):=by cases k <;> first | rfl | exact absurd rfl hne
    rw [e] at Vg;have:=dq kl (i + 1) _ (List.mem_of_getElem? Vg);exact ⟨j - 1,by omega,by rw [Vg]; congr 1; omega⟩
   cases k with
   | plain =>
     obtain ⟨j',rfl,lg⟩:=QZ (by simp)
     simp only [X1w] at h;have:=X1p E l kl El (i + 1) _ c0 (by simpa using hk) (by simpa [lasts] using Q1) (by simpa [lasts] using hE) h.2 n (by simpa [lasts] using hn) j' o' (by rw [ht]; congr 1; omega) (by simpa using hj) v w1 hx (by rwa [show i + 1 + j'=i + (j' + 1) from by omega])
     rw [show i + 1 + j'=i + (j' + 1) from by omega] at this
     simpa [act] using this
   | world =>
     obtain ⟨j',rfl,lg⟩:=QZ (by simp)
     simp only [X1w] at h;have:=X1p E l kl El (i + 1) _ c0 (by simpa using hk) (by simpa [lasts] using Q1) (by simpa [lasts] using hE) h.2 n (by simpa [lasts] using hn) j' o' (by rw [ht]; congr 1; omega) (by simpa using hj) v w1 hx (by rwa [show i + 1 + j'=i + (j' + 1) from by omega])
     rw [show i + 1 + j'=i + (j' + 1) from by omega] at this
     simpa [act] using this
   | last =>
     cases El with
     | nil=>simp only [X1w] at h
     | cons E0 El =>
       have e0:E0=E c0:=by have:=hE 0 (by simp [lasts]); simpa using this
       subst e0;simp only [X1w] at h;have zW:tail.getD c0 0=i:=by
        have:(tail.drop c0)[0]?=some i:=by rw [Q1]; rfl
        rw [List.getElem?_drop] at this
        simpa using congrArg (fun x=>x.getD 0) this
       cases n with
       | zero =>
         have hj0:j=0:=by
          have:(lasts (.last :: kl) i)[0]?=some i:=rfl;rw [this] at Vg; simp at Vg; omega
         subst hj0;simp only [List.getElem?_cons_zero,Option.some.injEq] at hj;subst hj;have:=J4x (h:=fun w hT=>(h.1 v w1 hx).out (fun m hm=>by
          simp only [List.mem_filter,Bool.not_eq_true',List.contains_eq_mem,decide_eq_false_iff_not] at hm;exact hf m (by simpa using hm.1) hm.2) w hT _ rfl)
         simpa [act] using this
       | succ n =>
         have tq:(lasts kl (i + 1))[n]?=some (i + j):=by simpa [lasts] using Vg
         have LQ:=dq kl (i + 1) _ (List.mem_of_getElem? tq);obtain ⟨j',rfl⟩:∃ j',j=j' + 1:=⟨j - 1,by omega⟩
         have hT:(fun v w1 w=>E c0 (mask pre i v) w1 w)=Tail pre tail E (c0 + 1):=by
          funext v w1 w
          show _=E c0 (mask pre (tail.getD c0 0) v) w1 w;rw [zW]
         have h2:=h.2;rw [hT] at h2;have:=X1p E l kl El (i + 1) _ (c0 + 1) (by simpa using hk) (by
             have e:tail.drop (c0 + 1)=(tail.drop c0).drop 1:=by rw [List.drop_drop]
             rw [e,Q1]; rfl) (fun m hm=>by
             have:=hE (m + 1) (by simpa [lasts] using hm)
             rw [show c0 + 1 + m=c0 + (m + 1) from by omega]
             simpa using this) h2 n (by simpa [lasts] using hn) j' o' (by rw [show c0 + 1 + n=c0 + (n + 1) from by omega,ht]; congr 1; omega) (by simpa using hj) v w1 hx (by rwa [show i + 1 + j'=i + (j' + 1) from by omega])
         rw [show i + 1 + j'=i + (j' + 1) from by omega,show c0 + 1 + n=c0 + (n + 1) from by omega] at this
         simpa [act] using this
section
variable {P:Program} {id:Nat} {Q:Exit -> Act -> World -> Prop} {a0:Act} {w:World} {ops:List Oper}
theorem J1e (Rel:World -> World -> Prop) (j0:Nat) (Rel0:World -> World -> Prop) (B5:∀ w,Rel0 w w) (La:∀ a b c,Rel0 a b -> Rel0 b c -> Rel0 a c) (ZY:∀ a b,Rel0 a b -> Rel a b) (Tj:∀ w,Rel w w) (vz:∀ a b c,Rel a b -> Rel b c -> Rel a c) (K4:∀ a b,Rel a b -> a.heap.size <= b.heap.size) (kl:List Kind) (jl:List Nat) (pl:List (List Nat)) (tail:List Nat) (Dl:List (Z0m Rel)) (El:List ((Nat -> Value) -> World -> World -> Prop))
    (hm:P.follows .mixedOrders=true) (Zj:jl=List.range' 0 ops.length) (Ej:okL ops pl kl tail El.length=true)
    (Jz:X1w j0 Rel0 Rel P ops.toArray (lookup pl []) tail w.drew (fun k=>(lookup Dl .none k).D) El (fun _ w1 w=>w=w1) ops kl jl (fun _=>a0))
    (Xj:∀ v w1,Rel w.drew w1 -> All (lookup pl []) (fun k=>(lookup Dl .none k).D) v w1 tail jl (∀ w',endOf (lookup pl []) v w1 w' tail El -> Q .normal (acts v ops jl a0) w')) :
    (Code.region id ops.toArray true).wp P Q a0 w:=by
 subst Zj;simp only [Y6p] at Xj;simp only [okL,Bool.and_eq_true,List.all_eq_true,List.mem_range,beq_iff_eq,Bool.or_eq_true,Bool.not_eq_true',List.contains_eq_mem,decide_eq_true_eq,decide_eq_false_iff_not] at Ej;obtain ⟨⟨⟨⟨⟨⟨Ej,Fq⟩,Bj⟩,hn⟩,uj⟩,Dx⟩,dj⟩:=Ej;have tq:∀ j,j ∈ tail ↔ j < ops.length /\ isLast (lookup kl .plain j)=true:=by intro j; rw [Bj,List.mem_filter,List.mem_range]
 have hk:∀ j,isLast (lookup kl .plain j)=true ↔ lookup kl .plain j=.last:=by intro j; cases lookup kl .plain j <;> simp [isLast]
 have kg:lasts kl 0=tail:=by
  rw [X8i,Bj,Fq,List.range_eq_range'];rfl
 have OZ:∀ n,n < (lasts kl 0).length -> El[n]?=some ((fun c=>(El[c]?).getD fun _ _ _=>True) (0 + n)):=by
  intro n r7;rw [kg,<- hn] at r7;simp [r7]
 have Ug:∀ v w1 w',Tail (lookup pl []) tail (fun c=>(El[c]?).getD fun _ _ _=>True) tail.length v w1 w' -> endOf (lookup pl []) v w1 w' tail El:=by
  intro v w1 w' h;have gen:∀ (tl:List Nat) (el:List ((Nat -> Value) -> World -> World -> Prop)),el.length=tl.length -> (tl=[] -> w'=w1) -> (∀ (hne:tl ≠ []),((el[tl.length - 1]?).getD fun _ _ _=>True) (mask (lookup pl []) (tl.getD (tl.length - 1) 0) v) w1 w') -> endOf (lookup pl []) v w1 w' tl el:=by
   intro tl
   induction tl with
   | nil=>intro el _ h0 _; cases el <;> exact h0 rfl
   | cons j tl ih =>
     intro el hl _ h1;cases el with
     | nil=>simp at hl
     | cons E el =>
       cases tl with
       | nil=>cases el with
         | nil=>simpa [endOf] using h1 (by simp)
         | cons _ _=>simp at hl
       | cons j' tl=>cases el with
         | nil=>simp at hl
         | cons E' el =>
           show endOf _ v w1 w' (j' :: tl) (E' :: el);exact ih _ (by simpa using hl) (fun h=>by simp at h) (fun _=>by simpa using h1 (by simp))
  refine gen tail El hn.symm.symm (fun h0=>?_) (fun hne=>?_)
  . rw [h0] at h; exact h
  . obtain ⟨m,hm⟩:∃ m,tail.length=m + 1:=⟨tail.length - 1,by have:=List.length_pos_iff.2 hne; omega⟩
    rw [hm] at h;rw [hm,Nat.add_sub_cancel];exact h
 refine Y3a j0 (Rel0:=Rel0) B5 La [] tail (lookup kl .plain) (Rel:=Rel) (D:=fun k=>(lookup Dl .none k).D) (E:=fun c=>(El[c]?).getD fun _ _ _=>True) hm (J8p Ej)
  (fun i hi=>by simpa using ((tq _).1 (List.getElem_mem hi)).1) (fun i k hi hk hik=>by have:=uj k hk i hik; simpa [hi,hk] using this)
  (fun j Zj yw k hk'=>?_) (fun j Zj=>?_) (fun j Zj hjw s hs=>?_)
  ZY Tj vz (fun k _ v w w' hx hd=>(lookup Dl .none k).mono v w w' hx hd) (fun j o ho yw hj0 v w1 hx hf=>?_) (fun o ho yw v w1 hx hf=>?_) (fun c hc o ho v w1 hx hf=>?_) (fun _ h=>(nomatch h)) K4 (fun v w1 w' hx _ hf hE=>?_)
 . rcases Dx j (by simpa using Zj) with h | h
   . exact absurd ((tq j).2 ⟨by simpa using Zj,h⟩) yw
   . exact h k hk'
 . rw [tq,hk]; simp at Zj; simp [Zj]
 . rcases dj j (by simpa using Zj) with h | h
   . rw [hjw] at h; simp [X8u] at h
   . exact h s hs
 . have Zj:j < ops.length:=by simpa using (Array.getElem?_eq_some_iff.1 ho).1
   have:=Y5t ops kl El _ 0 _ Fq Jz j o (by simpa using ho) (fun h=>yw ((tq j).2 ⟨Zj,(hk j).2 h⟩)) v w1 (by rw [Nat.zero_add,if_neg hj0]; exact hx) (by simpa using hf)
   rw [Nat.zero_add,if_neg hj0] at this;have e:=Q5o v ops 0 j a0;rw [Nat.zero_add] at e
   simpa [e] using this
 . have Zj:j0 < ops.length:=by simpa using (Array.getElem?_eq_some_iff.1 ho).1
   have:=Y5t ops kl El _ 0 _ Fq Jz j0 o (by simpa using ho) (fun h=>yw ((tq j0).2 ⟨Zj,(hk j0).2 h⟩)) v w1 (by rw [Nat.zero_add,if_pos rfl]; exact hx) (by simpa using hf)
   rw [Nat.zero_add,if_pos rfl] at this;have e:=Q5o v ops 0 j0 a0;rw [Nat.zero_add] at e
   simpa [e] using this
 . have:=X1p (fun c=>(El[c]?).getD fun _ _ _=>True) ops kl El 0 _ 0 Fq (by rw [kg]; rfl) OZ Jz c (by rw [kg]; exact hc) tail[c] o (by simp [hc]) (by simpa using ho) v w1 hx (by simpa using hf)
   rw [Nat.zero_add,Nat.zero_add] at this;have e:=Q5o v ops 0 tail[c] a0;rw [Nat.zero_add] at e
   simpa [e] using this
 . exact (Xj v w1 hx).out (fun k hk Cx=>hf k (by simpa using hk) Cx) w' (Ug v w1 w' hE)
end
end Go.Flow
namespace Go.Proofs
open Go.RowKit Go.Tw Go.Flow Tryz
attribute [local go_sem] Oper.semAt_some
def Y1q (row:Option Nat) (B:Nat) (v:Value) (ks:List PV) (a b:World):Prop:=a.grownBy b row /\ (Q1b a B 159 4 Q3f v ks -> Q1b b B 159 4 Q3f v ks)
theorem Y1q.refl (row:Option Nat) (B:Nat) (v:Value) (ks:List PV) (a:World):Y1q row B v ks a a:=⟨Q7e a row,id⟩
theorem Y1q.trans {row:Option Nat} {B:Nat} {v:Value} {ks:List PV} {a b c:World} (h:Y1q row B v ks a b) (k:Y1q row B v ks b c):Y1q row B v ks a c:=⟨Q9h h.1 k.1,fun x=>k.2 (h.2 x)⟩
theorem Y1q.size {row:Option Nat} {B:Nat} {v:Value} {ks:List PV} {a b:World} (h:Y1q row B v ks a b):a.heap.size <= b.heap.size:=h.1.size
theorem Y1q.ext {row:Option Nat} {B:Nat} {v:Value} {ks:List PV} {a b:World} (h:Ext a b):Y1q row B v ks a b:=⟨Q5t (Q7e a row) h,fun x=>x.below h⟩
theorem Y1q.blk {row:Option Nat} {B:Nat} {v:Value} {ks:List PV} {a b:World} (h:Y1q row B v ks a b) {g:Nat} {T:TypeId} {cs:Array Value} (hb:Blk a g T cs) (hg:some g ≠ row):Blk b g T cs:=(h.1.block g hb.lt hg).trans hb
theorem Tryz.Y9w:(prog.info? 159).map (fun i=>(i.zero,i.size,i.bytes))=some (some (.agg #[.int .i64 0,.int .i64 0,.int .i64 0,.slice none 0 0]),4,48):=by kernel_rfl
theorem X8t (w:World) (a b c:Int) (A:Option Addr) (n cp:Nat):(Instr.buildSlice 160 1 #[(0,.agg #[.int .i64 a,.int .i64 b,.int .i64 c,.slice A n cp])]).run prog w=.ok (.slice (some ⟨w.heap.size,0,none⟩) 1 1) (w.alloc (.cells #[.int .i64 a,.int .i64 b,.int .i64 c,.slice A n cp] 159)):=by kernel_rfl
theorem Q3t {K:Value -> World -> Prop} {o:Oper} {a:Act} {w:World} (T E:TypeId) (x:Operand) (ho:o.op=.buildSlice T 1 #[(0,x)]) {u:Value} (hx:a.eval x=u) (hr:(Instr.buildSlice T 1 #[(0,u)]).run prog w=.ok (.slice (some ⟨w.heap.size,0,none⟩) 1 1) (w.alloc (.cells u.cells E)))
    (h:K (.slice (some ⟨w.heap.size,0,none⟩) 1 1) (w.alloc (.cells u.cells E))):gives prog K ((execOp a.eval o).run prog w):=by
 unfold execOp;simp only [ho,hx,List.map_toArray,List.map_cons,List.map_nil,Sem.run_bind,hr,Result.andThen_ok,Sem.run_pure];exact h
theorem Z4c {P:Program} {K:Value -> World -> Prop} {o:Oper} {a:Act} {w:World} {f:FuncId} {x y:Operand} {ts:Array TypeId} {u v:Value} {R:Ending -> World -> Prop} (ho:o.op=.call { callee:=.value (.func f),args:=#[x,y],argTypes:=ts })
    (he:Enters P f) (hx:a.eval x=u) (hy:a.eval y=v) (h:Calls P f #[u,v] w R) (hk:∀ e w',R e w' -> ∃ z,e=.returned z /\ K z w'):gives P K ((execOp a.eval o).run P w):=by
 unfold execOp;simp only [ho,resolve,invoke,Sem.run_bind,Result.andThen_ok,List.map_toArray,List.map_cons,List.map_nil,hx,hy];go_simp;rw [he];exact Q0d h hk
theorem Y9u (A:Option Addr) (n m c:Nat):(Value.slice A n c).ownBlock=(Value.slice A m c).ownBlock:=by cases A <;> rfl
theorem OwnP.X0z {w:World} {B:Nat} {v:Value} {ps:List PV} (h:Q1b w B 159 4 Q3f v ps):∀ b,v.ownBlock=some b -> B <= b /\ b < w.heap.size /\ ∃ cs,Blk w b 159 cs:=by
 intro b hb
 rcases OwnP.cases h with ⟨rfl,_⟩ | ⟨g,Qq,cur,rfl,Qx,hg,_⟩
 . cases hb
 . cases hb; exact ⟨Qx,hg.lt,_,hg⟩
theorem Q0r.grown {w w':World} {B:Nat} {v:Value} {ps qs:List PV} (h:Q0r w qs) (ho:Q1b w B 159 4 Q3f v ps) (hg:w.grownBy w' v.ownBlock):Q0r w' qs:=by
 rcases OwnP.cases ho with ⟨rfl,_⟩ | ⟨g,Qq,cur,rfl,Qx,hb,_⟩
 . exact fun q hq=>Y3y (E:=159) (us:=([]:List Value)) (enc':=idV) (b2:=0) (h q hq) (Q0n.nil w 0 _ _) (by decide) hg
 . exact h.off hb fun k hk hne=>hg.block k hk (by intro e; cases e; exact hne rfl)
def Q5n (ps:List PV) (k:Nat):List Plan:=((ps.take k).map (·.1)).foldl Q2o []
theorem Z1a {ps:List PV} {k:Nat} {q:PV} (hq:ps[k]?=some q):Q5n ps (k + 1)=Q2o (Q5n ps k) q.1:=by
 obtain ⟨hk,rfl⟩:=List.getElem?_eq_some_iff.1 hq;unfold Q5n;rw [List.take_succ_eq_append_getElem hk,List.map_append,List.foldl_append]; rfl
theorem Z3i (ps:List PV):Q5n ps ps.length=Y0i (ps.map (·.1)):=by unfold Q5n Y0i; rw [List.take_length]
theorem Q9y (w:World) (B:Nat) (v:Value) (ps:List PV) (hv:Q1b w B 159 4 Q3f v ps) (hc:Q0r w ps) (hl:ps.length <= 90000) :
    Calls prog 197 #[v] w fun e w'=>∃ v' qs,e=.returned v' /\ Q1b w' w.heap.size 159 4 Q3f v' qs /\ Q0r w' qs /\ qs.map (·.1)=Y0i (ps.map (·.1)) /\ Ext w w':=by
 obtain ⟨i0,hi,fq,mq,iq⟩:=info_parts Y9w;have HC:=hid hc;obtain ⟨A,cv,Aj,xj⟩:∃ A cv,v=.slice A ps.length cv /\ Hid (∀ j (hj:j < ps.length),∃ gb,A=some ⟨gb,0,none⟩ /\ ∀ i,i < 4 -> w.cell? ⟨gb,j * 4 + i,none⟩=(Q3f ps[j])[i]?):=by
  rcases OwnP.cases hv with ⟨rfl,h0⟩ | ⟨gb,Qq,cur,rfl,_,hb,_,_,_,O2⟩
  . exact ⟨none,0,by rw [h0]; rfl,hid (fun j hj=>by rw [h0] at hj; simp at hj)⟩
  . exact ⟨_,Qq,rfl,hid (fun j hj=>⟨gb,rfl,fun i hi=>X3l hb O2 hj hi⟩)⟩
 subst Aj;obtain ⟨L,hL⟩:∃ L,ps.length=L:=⟨_,rfl⟩;have HL:=hid hL;rw [hL] at hl ⊢;have E9:=hid (Z3i ps);clear hv hc hL;go_enter func197,ntmps197;go_wp2
 go_loopw [3,8] (fun o i wr=>∃ (k:Nat) (qs:List PV),k <= L /\ qs.length <= k /\ i=.int .i64 k /\ Q1b wr w.heap.size 159 4 Q3f o qs /\ Q0r wr qs /\ qs.map (·.1)=Q5n ps k /\ Ext w wr) (fun _ i _=>L - (intOf i).toNat)
 case atStart=>exact ⟨0,[],Nat.zero_le _,Nat.le_refl _,rfl,Q1b.nil _ _ _ _ _,Q0r.nil _,rfl,Ext.refl _⟩
 case round =>
  obtain ⟨k,qs,hk,rz,rfl,Yq,Kx,Fz,hx⟩:=hrel;have Ty:=hid Fz;have HX:=hid hx;have lq:=hid Yq;have Uw:=hid Kx
  by_cases Tq:k < L
  . have Oj:k < ps.length:=by rw [HL.out]; exact Tq
    have Lj:(k:Int) < L:=by omega
    obtain ⟨gb,rfl,Xq⟩:=xj.out k Oj;have e0:=hx.cell (Xq 0 (by omega))
    have e1:=hx.cell (Xq 1 (by omega))
    have e2:=hx.cell (Xq 2 (by omega))
    have e3:=hx.cell (Xq 3 (by omega))
    obtain ⟨A4,n4,c4,qx⟩:=HC.out.shape (List.getElem_mem Oj);have Wx:ps[k]?=some ps[k]:=List.getElem?_eq_getElem Oj;have yj:=Z1a Wx;have hcl:=HC.out ps[k] (List.getElem_mem Oj);obtain ⟨qk,Jx⟩:∃ z,ps[k]=z:=⟨_,rfl⟩;rw [Jx] at e0 e1 e2 e3 qx yj hcl;obtain ⟨x,xv⟩:=qk;replace qx:xv=.slice A4 n4 c4:=qx;subst qx;rw [Nat.add_zero] at e0;replace yj:Q5n ps (k + 1)=Q2o (Q5n ps k) x:=yj;have Yz:=hid hcl;have qq:=hid yj;obtain ⟨x1,Yj⟩:∃ z,x.weight=z:=⟨_,rfl⟩;obtain ⟨x2,Mq⟩:∃ z,x.closings=z:=⟨_,rfl⟩;obtain ⟨x3,Dj⟩:∃ z,x.delay=z:=⟨_,rfl⟩;have yq:=Ext.box wr (.cells #[.int .i64 x1,.int .i64 x2,.int .i64 x3,.slice A4 n4 c4] 159);have K3:=Blk.made wr 159 #[.int .i64 x1,.int .i64 x2,.int .i64 x3,.slice A4 n4 c4];have Uf:Hid (Y2z 227 #[] #[.pointer (some ⟨wr.heap.size,0,none⟩)] (wr.alloc (.cells #[.int .i64 x1,.int .i64 x2,.int .i64 x3,.slice A4 n4 c4] 159)) (fun o=>o.Q5h x)):=hid (K1o _ x A4 n4 c4 wr.heap.size (by rw [Yj,Mq,Dj]; exact K3))
    have D9:Hid (∀ W,Y2z 228 #[.agg #[.int .i64 x1,.int .i64 x2,.int .i64 x3,.slice A4 n4 c4]] #[] W (fun o=>x.Q5h o)):=hid (fun W=>by
     have h:=K1p W x A4 n4 c4;unfold Z9e at h;rw [Yj,Mq,Dj] at h;exact h)
    have Qk:=hid (show x.weight=x1 /\ x.closings=x2 /\ x.delay=x3 from ⟨Yj,Mq,Dj⟩)
    rw [Yj] at e0;rw [Mq] at e1;rw [Dj] at e2;have zj:=hid yq;have Dg:=hid K3;have FZ:=hid (Y2k _ w.heap.size _ qs _ #[] _ _ (Yq.below yq) (Kx.ext yq) (by omega) (enters_of func227 (by kernel_rfl) rfl) Uf.out)
    obtain ⟨Ao,co,Ay,-⟩:=Yq.shape;subst Ay;obtain ⟨q,hq⟩:∃ q,(qs.any fun z=>z.1.Q5h x)=q:=⟨_,rfl⟩
    have HQ:=hid hq;rw [hq] at FZ;have sX:(Q5n ps k).any (fun o=>o.Q5h x)=q:=by rw [<- Ty.out,List.any_map]; exact hq
    have U8:=hid sX;clear Xq Jx yj Yj Mq Dj yq K3 hq sX Yq Kx Fz hx hcl Wx Oj
    go_light
    go_wp2_with (go_at_call 226; refine FZ.out.mono ?_; rintro e w5 ⟨rfl,Cq⟩; refine halted ?_);have vq:=hid (zj.out.trans Cq);have T8:=hid (Dg.out.ext Cq);clear Cq e0 e1 e2 e3;unfold Q1o;cases q with
    | true =>
      have WK:Hid (Q5n ps (k + 1)=Q5n ps k):=hid (by rw [qq.out]; unfold Q2o; rw [if_pos U8.out])
      go_wp2;go_roundw
      case rel=>exact ⟨k + 1,qs,by omega,by omega,by go_num,lq.out.below vq.out,Uw.out.ext vq.out,by rw [WK.out]; exact Ty.out,HX.out.trans vq.out⟩
      case measure=>simp [intOf]; omega
    | false =>
      have WK:Hid (Q5n ps (k + 1)=(Q5n ps k).filter (fun o=>!x.Q5h o) ++ [x]):=hid (by rw [qq.out]; unfold Q2o; rw [if_neg (by rw [U8.out]; simp)])
      obtain ⟨ks,Cx⟩:∃ z,(qs.filter fun z=>!x.Q5h z.1)=z:=⟨_,rfl⟩
      have b7:=hid Cx;have rX:ks.length <= qs.length:=by rw [<- Cx]; exact List.length_filter_le _ _
      have Na:Hid (ks.map (·.1)=(Q5n ps k).filter fun o=>!x.Q5h o):=hid (by rw [<- Ty.out,<- Cx,List.filter_map]; rfl)
      have VK:=hid (lq.out.below vq.out);have qX:=hid (Uw.out.ext vq.out);have Ek:Hid (Q0r w5 ks):=hid (qX.out.sub fun z hz=>by rw [<- Cx] at hz; exact (List.mem_filter.1 hz).1)
      have pX:=hid (fun (W:World) (h1:Q1b W w.heap.size 159 4 Q3f (.slice Ao qs.length co) qs) (h2:Q0r W qs)=>Y8p W w.heap.size _ qs 228 #[.agg #[.int .i64 x1,.int .i64 x2,.int .i64 x3,.slice A4 n4 c4]] #[] _ h1 h2 (by omega) (enters_of func228 (by kernel_rfl) rfl) D9.out)
      have CQ:=hid (Yz.out.below (HX.out.trans vq.out));have Tf:Hid (some wr.heap.size ≠ (Value.slice Ao qs.length co).ownBlock):=hid (fun e=>by
       have:=(OwnP.X0z lq.out _ e.symm).2.1;omega)
      have Ja:Hid (∀ W:World,W.heap.size ≥ w5.heap.size -> some W.heap.size ≠ (Value.slice Ao qs.length co).ownBlock):=hid (fun (W:World) hW e=>by
       have:=(OwnP.X0z VK.out _ e.symm).2.1;omega)
      have r5:=hid (enters_of (P:=prog) func229 (by kernel_rfl) rfl)
      have iw:Hid (∀ (W:World) gn,Blk W gn 159 #[.int .i64 x1,.int .i64 x2,.int .i64 x3,.slice A4 n4 c4] -> ∀ j u,(Q3f (x,.slice A4 n4 c4))[j]?=some u -> W.cell? ((⟨gn,0,none⟩:Addr).add j)=some u):=hid (fun W gn hb=>by unfold Q3f; dsimp only; rw [Qk.out.1,Qk.out.2.1,Qk.out.2.2]; exact Q6i hb)
      have bj:Hid (∀ u ∈ Q3f (x,.slice A4 n4 c4),u.oneCell'=true):=hid (by unfold Q3f; simp [Value.oneCell'])
      have ey:Hid (ks.length + 1 <= 100000):=hid (by omega)
      have Dv:Hid (w.heap.size <= w5.heap.size):=hid (by have:=HX.out.size; have:=vq.out.size; omega)
      obtain ⟨g,hg⟩:∃ z,wr.heap.size=z:=⟨_,rfl⟩;rw [hg] at T8 Tf ⊢;clear Cx hg Uf Dg;have Vq:Y1q (Value.slice Ao qs.length co).ownBlock w.heap.size (.slice Ao ks.length co) ks w5 w5.drew:=Y1q.ext (Ext.refl w5).drew;go_wp2;refine Flow.J1e (Y1q (Value.slice Ao qs.length co).ownBlock w.heap.size (.slice Ao ks.length co) ks) 3 Ext Ext.refl (fun _ _ _=>Ext.trans) (fun _ _=>Y1q.ext) (Y1q.refl _ _ _ _) (fun _ _ _=>Y1q.trans) (fun _ _ h=>h.size) [.p,.w,.p,.w,.w,.w,.last,.last] [0,1,2,3,4,5,6,7] [[],[],[1],[0,1,2],[],[4],[0,1,2,3,4,5],[0,1,2,3,4,5,6]] [6,7]
       [.c 0 (.slice Ao qs.length co),.c 1 (.agg #[.int .i64 x1,.int .i64 x2,.int .i64 x3,.slice A4 n4 c4]),.c 2 (.func (.func 228) #[.agg #[.int .i64 x1,.int .i64 x2,.int .i64 x3,.slice A4 n4 c4]] #[]),⟨fun v wz=>(fun v w'=>v 3=.slice Ao ks.length co /\ Q1b w' w.heap.size 159 4 Q3f (.slice Ao ks.length co) ks) v wz,by rintro v a b hx ⟨h1,h2⟩; exact ⟨h1,hx.2 h2⟩⟩,.c 4 (.agg #[.int .i64 x1,.int .i64 x2,.int .i64 x3,.slice A4 n4 c4]),⟨fun v wz=>(fun v w'=>∃ gn,v 5=.slice (some ⟨gn,0,none⟩) 1 1 /\ some gn ≠ (Value.slice Ao qs.length co).ownBlock /\ Blk w' gn 159 #[.int .i64 x1,.int .i64 x2,.int .i64 x3,.slice A4 n4 c4]) v wz,by rintro v a b hx ⟨gn,h1,h2,h3⟩; exact ⟨gn,h1,h2,hx.blk h3 h2⟩⟩,.none,.none]
       [fun v w1 w'=>Q1b w' w.heap.size 159 4 Q3f (v 6) (ks ++ [(x,.slice A4 n4 c4)]) /\ w1.grownBy w' (Value.slice Ao ks.length co).ownBlock,fun v w1 w'=>v 7=v 6 /\ Q1b w' w.heap.size 159 4 Q3f (v 6) (ks ++ [(x,.slice A4 n4 c4)]) /\ w1.grownBy w' (Value.slice Ao ks.length co).ownBlock] (by kernel_rfl) rfl (by kernel_rfl) ⟨?g0,?g1,?g2,?g3,?g4,?g5,?g6,?g7,trivial⟩ ?post
      case g0=>
       intro v w1 hx;replace hx:(Y1q (Value.slice Ao qs.length co).ownBlock w.heap.size (.slice Ao ks.length co) ks) _ w1:=hx;intro bb hbb;subst hbb;refine ⟨_,fun w=>?_,rfl⟩;go_simp
      case g1 | g4=>
       intro v w1 hx;replace hx:(Y1q (Value.slice Ao qs.length co).ownBlock w.heap.size (.slice Ao ks.length co) ks) _ w1:=hx;intro bb hbb;intro K hK;have o1:bb.eval (.tmp 5)=.pointer (some ⟨g,0,none⟩):=by rw [hbb]; dsimp only; (try simp (discharger:=decide) only [eval_put_ne]); rfl
       exact Q0i (.tmp 5) _ rfl J9t X9g o1 ((Vq.trans hx).blk T8.out Tf.out) rfl (hK _ _ (Ext.refl w1) rfl)
      case g2=>
       intro v w1 hx;(repeat intro (zq:v _=_));replace hx:(Y1q (Value.slice Ao qs.length co).ownBlock w.heap.size (.slice Ao ks.length co) ks) _ w1:=hx;intro bb hbb;subst hbb;refine ⟨_,fun w=>?_,rfl⟩;go_simp
      case g3=>
       intro v w1 hx;(repeat intro (zq:v _=_));replace hx:Ext _ w1:=hx;intro bb hbb;intro K hK;have o1:bb.eval (.tmp 15)=.slice Ao qs.length co:=by rw [hbb]; dsimp only; (try simp (discharger:=decide) only [eval_put_ne]); rw [Q0a (by exact (by decide:15 < 24))]; assumption
       have o2:bb.eval (.tmp 17)=.func (.func 228) #[.agg #[.int .i64 x1,.int .i64 x2,.int .i64 x3,.slice A4 n4 c4]] #[]:=by rw [hbb]; dsimp only; (try simp (discharger:=decide) only [eval_put_ne]); rw [Q0a (by exact (by decide:17 < 24))]; assumption
       have Zq:=(Ext.refl w5).drew.trans hx;refine Z4c rfl r5.out o1 o2 (pX.out w1 (VK.out.below Zq) (qX.out.ext Zq)) ?_;rintro e w2 ⟨v',rfl,h1,h2,h3,h4⟩;rw [b7.out] at h1 h4;obtain rfl:v'=.slice Ao ks.length co:=h4 Ao qs.length co rfl;exact ⟨_,rfl,hK _ _ (show Y1q _ _ _ _ _ _ from ⟨h3,fun _=>h1⟩) ⟨rfl,h1⟩⟩
      case g5=>
       intro v w1 hx;(repeat intro (zq:v _=_));replace hx:(Y1q (Value.slice Ao qs.length co).ownBlock w.heap.size (.slice Ao ks.length co) ks) _ w1:=hx;intro bb hbb;intro K hK;have o1:bb.eval (.tmp 19)=.agg #[.int .i64 x1,.int .i64 x2,.int .i64 x3,.slice A4 n4 c4]:=by rw [hbb]; dsimp only; (try simp (discharger:=decide) only [eval_put_ne]); rw [Q0a (by exact (by decide:19 < 24))]; assumption
       exact Q3t 160 159 (.tmp 19) rfl o1 (X8t w1 _ _ _ _ _ _) (hK _ _ (Ext.box _ _) ⟨_,rfl,Ja.out w1 (Vq.trans hx).size,Blk.made _ _ _⟩)
      case g6=>
       intro v w1 hx (q0:v 0=_) (q1:v 1=_) (q2:v 2=_) (q3:(fun v w'=>v 3=.slice Ao ks.length co /\ Q1b w' w.heap.size 159 4 Q3f (.slice Ao ks.length co) ks) v w1) (q4:v 4=_) (q5:(fun v w'=>∃ gn,v 5=.slice (some ⟨gn,0,none⟩) 1 1 /\ some gn ≠ (Value.slice Ao qs.length co).ownBlock /\ Blk w' gn 159 #[.int .i64 x1,.int .i64 x2,.int .i64 x3,.slice A4 n4 c4]) v w1);intro wl hT;obtain rfl:wl=w1:=hT;intro bb hbb;intro K hK;obtain ⟨e3,HO⟩:=q3;obtain ⟨gn,e5,L7,YY⟩:=q5;have o1:bb.eval (.tmp 18)=.slice Ao ks.length co:=by rw [hbb]; dsimp only; (try simp (discharger:=decide) only [eval_put_ne]); rw [Q0a (by simp only [size_put]; exact (by decide:18 < 24))]; exact e3
       have o2:bb.eval (.tmp 20)=.slice (some ⟨gn,0,none⟩) 1 1:=by rw [hbb]; dsimp only; (try simp (discharger:=decide) only [eval_put_ne]); rw [Q0a (by simp only [size_put]; exact (by decide:20 < 24))]; exact e5
       exact Q2z _ _ 160 rfl w.heap.size 159 i0 (.agg #[.int .i64 0,.int .i64 0,.int .i64 0,.slice none 0 0]) 4 48 underlying160 hi fq mq iq rfl (by decide) Q3f Q4t _ ks (x,.slice A4 n4 c4) o1 HO ⟨gn,0,none⟩ 1 o2 (iw.out wl gn YY) bj.out ey.out (by decide) (by have:=(Vq.trans hx).size; have:=Dv.out; omega) (fun v' w' h1 h2=>hK _ _ ⟨h1,h2⟩)
      case g7=>
       intro v w1 hx (q0:v 0=_) (q1:v 1=_) (q2:v 2=_) _ (q4:v 4=_) _;intro wl hT;replace hT:(fun v w1 w'=>Q1b w' w.heap.size 159 4 Q3f (v 6) (ks ++ [(x,.slice A4 n4 c4)]) /\ w1.grownBy w' (Value.slice Ao ks.length co).ownBlock) v w1 wl:=hT;intro bb hbb;subst hbb;intro K hK;go_simp;exact hK _ _ ⟨rfl,hT⟩
      case post =>
       intro v w1 hx;(iterate 3 intro (zq:v _=_));intro (q3:(fun v w'=>v 3=.slice Ao ks.length co /\ Q1b w' w.heap.size 159 4 Q3f (.slice Ao ks.length co) ks) v w1);(iterate 1 intro (zq:v _=_));intro (q5:(fun v w'=>∃ gn,v 5=.slice (some ⟨gn,0,none⟩) 1 1 /\ some gn ≠ (Value.slice Ao qs.length co).ownBlock /\ Blk w' gn 159 #[.int .i64 x1,.int .i64 x2,.int .i64 x3,.slice A4 n4 c4]) v w1);intro w2 hE;replace hE:(fun v w1 w'=>v 7=v 6 /\ Q1b w' w.heap.size 159 4 Q3f (v 6) (ks ++ [(x,.slice A4 n4 c4)]) /\ w1.grownBy w' (Value.slice Ao ks.length co).ownBlock) v w1 w2:=hE;simp only [Flow.acts,Act.put];go_simp;obtain ⟨-,nX,Q2⟩:=hE;have mX:w5.grownBy w2 (Value.slice Ao qs.length co).ownBlock:=Q9h (Vq.trans hx).1 (by rw [Y9u Ao qs.length ks.length co]; exact Q2)
       have zy:=hid nX;have Ox:Hid (Ext w w2):=hid (Below.grown (HX.out.trans vq.out) mX Dv.out (fun b hb=>(OwnP.X0z VK.out b hb).1));have rj:Hid (Q0r w2 (ks ++ [((x,Value.slice A4 n4 c4):PV)])):=hid (Q0r.grown (fun z hz=>by
        rcases List.mem_append.1 hz with hz | hz
        . exact Ek.out z hz
        . obtain rfl:=List.mem_singleton.1 hz
          exact CQ.out) VK.out mX)
       have Uz:Hid ((ks ++ [((x,Value.slice A4 n4 c4):PV)]).map (·.1)=Q5n ps (k + 1)):=hid (by rw [WK.out,<- Na.out,List.map_append]; rfl)
       have S8:(ks ++ [((x,Value.slice A4 n4 c4):PV)]).length <= k + 1:=by rw [List.length_append]; simp only [List.length_singleton]; omega
       obtain ⟨vr,M7⟩:∃ z,v 6=z:=⟨_,rfl⟩;rw [M7] at zy ⊢;clear hx Vq q3 q5 nX Q2 mX M7;(repeat clear zq);go_wp2;go_roundw
       case rel=>exact ⟨k + 1,ks ++ [((x,Value.slice A4 n4 c4):PV)],by omega,S8,by go_num,zy.out,rj.out,Uz.out,Ox.out⟩
       case measure=>simp [intOf]; omega
  . have Cj:k=L:=by omega
    subst Cj;go_wp2;go_ret;exact ⟨_,qs,rfl,lq.out,Uw.out,by rw [Ty.out,<- E9.out,HL.out],HX.out⟩
end Go.Proofs
namespace Go.Tw
open Go.RowKit Go.Flow
def emp:ByteArray:=⟨#[]⟩
theorem X2a {α:Type} {P:Program} {K:Value -> World -> Prop} {o:Oper} {a:Act} {w:World} (s x:Operand) (t:TypeId) (ho:o.op=.call { callee:=.builtin .append,args:=#[s,x],argTypes:=#[t,t] })
    (base:Nat) (e:TypeId) (i:TypeInfo) (z:Value) (k bytes:Nat) (ht:P.underlying t=some (.slice e)) (hi:P.info? e=some i) (hz:i.zero=some z) (zz:i.size=k) (M3:i.bytes=bytes) (Yy:z.cells.size=k) (vk:0 < k)
    (enc:α -> List Value) (hk:∀ x,(enc x).length=k) (v:Value) (xs ys:List α) (hs:a.eval s=v) (Yq:Q1b w base e k enc v xs) (A:Option Addr) (c:Nat) (hx:a.eval x=.slice A ys.length c)
    (hA:0 < ys.length -> ∃ ad,A=some ad /\ ∀ j u,(ys.flatMap enc)[j]?=some u -> w.cell? (ad.add j)=some u) (h1:∀ u ∈ ys.flatMap enc,u.oneCell'=true)
    (Z7:xs.length + ys.length <= 100000) (hb:bytes <= 1000) (kz:base <= w.heap.size)
    (h:∀ v' w',Q1b w' base e k enc v' (xs ++ ys) -> w.grownBy w' v.ownBlock -> K v' w'):gives P K ((execOp a.eval o).run P w):=by
 rcases Nat.eq_zero_or_pos ys.length with h0 | h0
 . have e0:ys=[]:=List.eq_nil_of_length_eq_zero h0
   subst e0;obtain ⟨b,c',rfl,Kq⟩:=Yq.shape;unfold execOp;simp only [ho,resolve,invoke,builtin,Sem.run_bind,Sem.run_pure,Result.andThen_ok,List.map_toArray,List.map_cons,List.map_nil,hs,hx];rw [List.length_nil,Q7q (P:=P) w t o.type e i ht hi b A xs.length c' c Kq];exact h _ _ (by simpa using Yq) ⟨rfl,rfl,rfl,Nat.le_refl _,fun _ _ _=>rfl⟩
 . obtain ⟨ad,rfl,Jj⟩:=hA h0
   have xw:(xs.length + ys.length) * bytes <= 140737488355328:=by
    have:(xs.length + ys.length) * bytes <= 100000 * 1000:=Nat.mul_le_mul Z7 hb;omega
   obtain ⟨v',w',hr,h2,h3,h4⟩:=run_append_own (P:=P) w base t o.type e i z k bytes ht hi hz zz M3 Yy vk v xs.length (xs.flatMap enc) Yq ad ys.length c (ys.flatMap enc) (Q5s hk ys) Jj h1 (by unfold maxLen; omega) xw kz
   unfold execOp;simp only [ho,resolve,invoke,builtin,Sem.run_bind,Sem.run_pure,Result.andThen_ok,List.map_toArray,List.map_cons,List.map_nil,hs,hx,hr];refine h v' w' ?_ h3;unfold Q1b;rw [List.length_append,List.flatMap_append];exact h2
end Go.Tw
namespace Go.Proofs
open Go.RowKit Go.Tw Go.Flow Tryz
attribute [local go_sem] Oper.semAt_some
theorem X4e (z:Array Value) (n:Nat):(Builtin.zeroCells z n).size=n * z.size:=by simp [Builtin.zeroCells]
theorem Y4a (w:World) (e:TypeId) (z:Array Value) (k n:Nat) (hz:z.size=k) (hn:n <= 100000) :
    (w.drew.alloc (.cells (Builtin.zeroCells z n ++ Builtin.zeroCells z (grownCap w n 0 e - n)) e)).ownsRow w.heap.size e k (.slice (some ⟨w.heap.size,0,none⟩) 0 (grownCap w n 0 e)) 0 []:=by
 have h1:=grownCap_ge w n 0 e;have h2:=grownCap_le_maxLen w n 0 e (by unfold maxLen; omega)
 refine ⟨by simp,.inr ⟨w.heap.size,grownCap w n 0 e,_,rfl,Nat.le_refl _,heap_alloc_new w.drew _,Nat.zero_le _,h2,?_,by simp⟩⟩
 rw [Array.size_append,X4e,X4e,hz,<- Nat.add_mul]
 congr 1
 omega
theorem Tryz.Y5s:(prog.info? 9).map (fun i=>(i.zero,i.size,i.bytes))=some (some (.string emp),1,16):=by kernel_rfl
theorem J0l (w:World) (n:Nat) (hn:n <= 100000) :
    Calls prog 225 #[.slice none 0 0,.int .i64 n] w fun e w'=>∃ b c,e=.returned (.slice b 0 c) /\ w'.ownsRow w.heap.size 9 1 (.slice b 0 c) 0 [] /\ Ext w w':=by
 rcases Nat.eq_zero_or_pos n with h0 | h0
 . subst h0
   have HO:Hid (w.ownsRow w.heap.size 9 1 (.slice none 0 0) 0 []):=hid (World.ownsRow_nil w w.heap.size 9 1);go_enter func225,ntmps225;go_wp2;go_ret;exact ⟨_,_,rfl,HO.out,Ext.refl _⟩
 obtain ⟨i0,hi,fq,mq,iq⟩:=info_parts Y5s;have vx:=Lib.run_append_nil_zeros (P:=prog) w 157 3 157 9 i0 (.string emp) .i64 .i64 underlying157 underlying3 hi fq n h0 (by rw [mq]; decide) (by omega) (by rw [iq]; omega)
 have HR:=hid vx;have HO:=hid (Y4a w 9 (.string emp:Value).cells 1 n rfl hn);have HX:Hid (Ext w (w.drew.alloc (.cells (Builtin.zeroCells (.string emp:Value).cells n ++ Builtin.zeroCells (.string emp:Value).cells (grownCap w n 0 9 - n)) 9))):=hid ((Ext.refl w).drew.alloc _);obtain ⟨gc,yy⟩:∃ c,grownCap w n 0 9=c:=⟨_,rfl⟩;rw [yy] at HR HO HX;obtain ⟨wz,C9⟩:∃ x,w.drew.alloc (.cells (Builtin.zeroCells (.string emp:Value).cells n ++ Builtin.zeroCells (.string emp:Value).cells (gc - n)) 9)=x:=⟨_,rfl⟩;rw [C9] at HR HO HX;clear vx yy C9 hi fq mq iq;have UK:(0:Int) < n:=by omega
 have g1:¬ (n:Int) < 0:=by omega
 go_enter func225,ntmps225;go_wp2_with (at_builtin; refine Lib.wpList_append_run _ rfl _ _ _ _ rfl _ _ rfl rfl _ _ HR.out ?_);go_ret;exact ⟨_,_,rfl,HO.out,HX.out⟩
theorem Z9g (w:World) (n:Nat) (hn:n <= 100000) :
    Calls prog 232 #[.slice none 0 0,.int .i64 n] w fun e w'=>∃ b c,e=.returned (.slice b 0 c) /\ w'.ownsRow w.heap.size 159 4 (.slice b 0 c) 0 [] /\ Ext w w':=by
 rcases Nat.eq_zero_or_pos n with h0 | h0
 . subst h0
   have HO:Hid (w.ownsRow w.heap.size 159 4 (.slice none 0 0) 0 []):=hid (World.ownsRow_nil w w.heap.size 159 4);go_enter func232,ntmps232;go_wp2;go_ret;exact ⟨_,_,rfl,HO.out,Ext.refl _⟩
 obtain ⟨i0,hi,fq,mq,iq⟩:=info_parts Y9w;have vx:=Lib.run_append_nil_zeros (P:=prog) w 160 3 160 159 i0 (.agg #[.int .i64 0,.int .i64 0,.int .i64 0,.slice none 0 0]) .i64 .i64 underlying160 underlying3 hi fq n h0 (by rw [mq]; decide) (by omega) (by rw [iq]; omega)
 have HR:=hid vx;have HO:=hid (Y4a w 159 (.agg #[.int .i64 0,.int .i64 0,.int .i64 0,.slice none 0 0]:Value).cells 4 n rfl hn);have HX:Hid (Ext w (w.drew.alloc (.cells (Builtin.zeroCells (.agg #[.int .i64 0,.int .i64 0,.int .i64 0,.slice none 0 0]:Value).cells n ++ Builtin.zeroCells (.agg #[.int .i64 0,.int .i64 0,.int .i64 0,.slice none 0 0]:Value).cells (grownCap w n 0 159 - n)) 159))):=hid ((Ext.refl w).drew.alloc _);obtain ⟨gc,yy⟩:∃ c,grownCap w n 0 159=c:=⟨_,rfl⟩;rw [yy] at HR HO HX;obtain ⟨wz,C9⟩:∃ x,w.drew.alloc (.cells (Builtin.zeroCells (.agg #[.int .i64 0,.int .i64 0,.int .i64 0,.slice none 0 0]:Value).cells n ++ Builtin.zeroCells (.agg #[.int .i64 0,.int .i64 0,.int .i64 0,.slice none 0 0]:Value).cells (gc - n)) 159)=x:=⟨_,rfl⟩;rw [C9] at HR HO HX;clear vx yy C9 hi fq mq iq;have UK:(0:Int) < n:=by omega
 have g1:¬ (n:Int) < 0:=by omega
 go_enter func232,ntmps232;go_wp2_with (at_builtin; refine Lib.wpList_append_run _ rfl _ _ _ _ rfl _ _ rfl rfl _ _ HR.out ?_);go_ret;exact ⟨_,_,rfl,HO.out,HX.out⟩
def X8f {α:Type} (l1 l2:List α) (k:Nat):List α:=if k=0 then [] else if k=1 then l1 else l1 ++ l2
theorem Q5a {α:Type} (l1 l2:List α):X8f l1 l2 1=l1:=rfl
theorem Q6l {α:Type} (l1 l2:List α):X8f l1 l2 2=l1 ++ l2:=rfl
theorem Y6o {α:Type} {w:World} {B:Nat} {e:TypeId} {enc:α -> Value} {v:Value} {l:List α} (h:Q0n w B e enc v l):Src w enc v l:=by
 obtain ⟨A,c,rfl,_,hc⟩:=h.cells;refine ⟨A,c,rfl,fun j hj=>?_⟩;obtain ⟨g,hA,_,_,Xq⟩:=hc j hj;exact ⟨g,0,hA,Xq⟩
theorem Y9y {w:World} {B n c:Nat} {A:Option Addr} {ps:List PV} (h:Q1b w B 159 4 Q3f (.slice A n c) ps):0 < ps.length -> ∃ ad,A=some ad /\ ∀ j u,(ps.flatMap Q3f)[j]?=some u -> w.cell? (ad.add j)=some u:=by
 intro h0
 rcases OwnP.cases h with ⟨_,h1⟩ | ⟨g,Qq,cur,he,_,hb,_,_,_,ht⟩
 . rw [h1] at h0; simp at h0
 . cases he
   refine ⟨_,rfl,fun j u hu=>?_⟩;rw [<- ht,List.getElem?_take] at hu
   split at hu
   . rw [addr_add,Nat.zero_add,hb.cell]
     simpa using hu
   . cases hu
theorem Y7v {w:World} {ps:List PV} (h:Q0r w ps):∀ u ∈ ps.flatMap Q3f,u.oneCell'=true:=by
 intro u hu;obtain ⟨q,hq,hu⟩:=List.mem_flatMap.1 hu;exact Z5z h hq u hu
theorem Y1z (w:World) (g:Nat) (TS:TypeId) (a b:Value) (B1 B2:Nat) (l1 l2:List ByteArray) (hB:Blk w g TS #[a,b]) (ha:Q0n w B1 9 .string a l1) (hb:Q0n w B2 9 .string b l2) (hl:l1.length + l2.length <= 90000) :
    Calls prog 196 #[.slice (some ⟨g,0,none⟩) 2 2] w fun e w'=>∃ x,e=.returned x /\ Q0n w' w.heap.size 9 .string x (l1 ++ l2) /\ Ext w w':=by
 have c0:=hB.cell 0;have c1:=hB.cell 1;simp only [Go.Tw.gA,Go.Tw.gB,Go.Tw.gC] at c0 c1;have HA:=hid ha;have HB:=hid hb;obtain ⟨A,ca,hA,-⟩:=ha.shape;obtain ⟨B,cb,TK,-⟩:=hb.shape;subst hA;subst TK;have O1:l1.length <= 1000000:=by omega
 have zw:l2.length <= 1000000:=by omega
 have lk:=hid hB;clear ha hb hB;go_enter func196,ntmps196;go_wp2
 go_loopw [3,11] (fun n i wr=>∃ (k:Nat),k <= 2 /\ i=.int .i64 k /\ n=.int .i64 (((X8f l1 l2 k).length:Nat):Int) /\ wr=w) (fun _ i _=>2 - (intOf i).toNat)
 case atStart=>exact ⟨0,Nat.zero_le _,rfl,rfl,rfl⟩
 case round =>
  obtain ⟨k,hk,rfl,rfl,rfl⟩:=hrel;obtain rfl | rfl | rfl:k=0 ∨ k=1 ∨ k=2:=by omega
  . have e0:(((X8f l1 l2 0).length:Nat):Int)=0:=rfl
    rw [e0];go_wp2;go_roundw
    case rel=>exact ⟨1,by omega,rfl,by rw [Q5a]; try simp,trivial⟩
    case measure=>simp [intOf]
  . rw [Q5a]
    go_wp2;go_roundw
    case rel=>exact ⟨2,by omega,rfl,by rw [Q6l,List.length_append]; try go_num,trivial⟩
    case measure=>simp [intOf]
  . rw [Q6l,List.length_append]
    obtain ⟨W0,rfl⟩:∃ X,X=wr:=⟨_,rfl⟩;have e2:(((l1.length + l2.length:Nat)):Int)=(l1.length:Int) + l2.length:=by omega
    go_wp2_with fail;refine (J0l _ (l1.length + l2.length) (by omega)).mono ?_
    rintro e w1 ⟨bg,cg,rfl,hg,Yj⟩;have HG:Hid (Q0n w1 W0.heap.size 9 .string (.slice bg 0 cg) ([]:List ByteArray)):=hid hg;have iz:=hid Yj;replace c0:=Yj.cell c0;replace c1:=Yj.cell c1;obtain ⟨i0,hi,fq,mq,iq⟩:=info_parts Y5s;clear hg Yj e2;go_wp2
    go_loopw [6,27] (fun o i wq=>∃ (k:Nat),k <= 2 /\ i=.int .i64 k /\ Q0n wq W0.heap.size 9 .string o (X8f l1 l2 k) /\ Ext W0 wq) (fun _ i _=>2 - (intOf i).toNat)
    case atStart=>exact ⟨0,Nat.zero_le _,rfl,HG.out,iz.out⟩
    case round =>
     clear HG iz c0 c1;obtain ⟨k,hk,rfl,Yq,hx⟩:=hrel;have HX:=hid hx;have lq:=hid Yq;have c0:=(lk.out.ext hx).cell 0;have c1:=(lk.out.ext hx).cell 1;simp only [Go.Tw.gA,Go.Tw.gB,Go.Tw.gC] at c0 c1;clear Yq hx;obtain rfl | rfl | rfl:k=0 ∨ k=1 ∨ k=2:=by omega
     . go_wp2_with (refine Q1r (o:=⟨some 33,_,_,_,_,_⟩) rfl ?_; refine Q1s (.tmp 31) (.tmp 32) 157 rfl W0.heap.size 9 i0 (.string emp) 16 underlying157 hi fq mq iq rfl .string _ _ (X8f l1 l2 0) l1 rfl lq.out rfl (Y6o (HA.out.below HX.out)) (fun _ _=>rfl) (by first | (rw [Q5a]; omega) | (show 0 + _ <= _; omega)) (by decide) HX.out.size ?_; intro v' w9 Oq Pq)
       have hx':Ext W0 w9:=Below.grown HX.out Pq (by have:=HX.out.size; omega) (fun j hj=>(lq.out.lt j hj).1)
       have HX':=hid hx';have HOW':=hid Oq;clear hx' Oq Pq;go_wp2;go_roundw
       case rel=>exact ⟨1,by omega,rfl,by rw [Q5a]; exact HOW'.out,HX'.out⟩
       case measure=>simp [intOf]
     . go_wp2_with (refine Q1r (o:=⟨some 33,_,_,_,_,_⟩) rfl ?_; refine Q1s (.tmp 31) (.tmp 32) 157 rfl W0.heap.size 9 i0 (.string emp) 16 underlying157 hi fq mq iq rfl .string _ _ (X8f l1 l2 1) l2 rfl lq.out rfl (Y6o (HB.out.below HX.out)) (fun _ _=>rfl) (by first | (rw [Q5a]; omega) | (show 0 + _ <= _; omega)) (by decide) HX.out.size ?_; intro v' w9 Oq Pq)
       have hx':Ext W0 w9:=Below.grown HX.out Pq (by have:=HX.out.size; omega) (fun j hj=>(lq.out.lt j hj).1)
       have HX':=hid hx';have HOW':=hid Oq;clear hx' Oq Pq;go_wp2;go_roundw
       case rel=>exact ⟨2,by omega,rfl,by rw [Q6l]; exact HOW'.out,HX'.out⟩
       case measure=>simp [intOf]
     . go_wp2
       go_ret;exact ⟨_,rfl,by rw [<- Q6l]; exact lq.out,HX.out⟩
theorem Z3p (w:World) (g:Nat) (TS:TypeId) (a b:Value) (B1 B2:Nat) (l1 l2:List PV) (hB:Blk w g TS #[a,b]) (ha:Q1b w B1 159 4 Q3f a l1) (hb:Q1b w B2 159 4 Q3f b l2) (h1:∀ u ∈ l1.flatMap Q3f,u.oneCell'=true) (h2:∀ u ∈ l2.flatMap Q3f,u.oneCell'=true) (hl:l1.length + l2.length <= 90000) :
    Calls prog 199 #[.slice (some ⟨g,0,none⟩) 2 2] w fun e w'=>∃ x,e=.returned x /\ Q1b w' w.heap.size 159 4 Q3f x (l1 ++ l2) /\ Ext w w':=by
 have c0:=hB.cell 0;have c1:=hB.cell 1;simp only [Go.Tw.gA,Go.Tw.gB,Go.Tw.gC] at c0 c1;have HA:=hid ha;have HB:=hid hb;obtain ⟨A,ca,hA,-⟩:=ha.shape;obtain ⟨B,cb,TK,-⟩:=hb.shape;subst hA;subst TK;have O1:l1.length <= 1000000:=by omega
 have zw:l2.length <= 1000000:=by omega
 have lk:=hid hB;have sj:=hid h1;have rj:=hid h2;clear h1 h2;clear ha hb hB;go_enter func199,ntmps199;go_wp2
 go_loopw [3,11] (fun n i wr=>∃ (k:Nat),k <= 2 /\ i=.int .i64 k /\ n=.int .i64 (((X8f l1 l2 k).length:Nat):Int) /\ wr=w) (fun _ i _=>2 - (intOf i).toNat)
 case atStart=>exact ⟨0,Nat.zero_le _,rfl,rfl,rfl⟩
 case round =>
  obtain ⟨k,hk,rfl,rfl,rfl⟩:=hrel;obtain rfl | rfl | rfl:k=0 ∨ k=1 ∨ k=2:=by omega
  . have e0:(((X8f l1 l2 0).length:Nat):Int)=0:=rfl
    rw [e0];go_wp2;go_roundw
    case rel=>exact ⟨1,by omega,rfl,by rw [Q5a]; try simp,trivial⟩
    case measure=>simp [intOf]
  . rw [Q5a]
    go_wp2;go_roundw
    case rel=>exact ⟨2,by omega,rfl,by rw [Q6l,List.length_append]; try go_num,trivial⟩
    case measure=>simp [intOf]
  . rw [Q6l,List.length_append]
    obtain ⟨W0,rfl⟩:∃ X,X=wr:=⟨_,rfl⟩;have e2:(((l1.length + l2.length:Nat)):Int)=(l1.length:Int) + l2.length:=by omega
    go_wp2_with fail;refine (Z9g _ (l1.length + l2.length) (by omega)).mono ?_
    rintro e w1 ⟨bg,cg,rfl,hg,Yj⟩;have HG:Hid (Q1b w1 W0.heap.size 159 4 Q3f (.slice bg 0 cg) ([]:List PV)):=hid hg;have iz:=hid Yj;replace c0:=Yj.cell c0;replace c1:=Yj.cell c1;obtain ⟨i0,hi,fq,mq,iq⟩:=info_parts Y9w;clear hg Yj e2;go_wp2
    go_loopw [6,27] (fun o i wq=>∃ (k:Nat),k <= 2 /\ i=.int .i64 k /\ Q1b wq W0.heap.size 159 4 Q3f o (X8f l1 l2 k) /\ Ext W0 wq) (fun _ i _=>2 - (intOf i).toNat)
    case atStart=>exact ⟨0,Nat.zero_le _,rfl,HG.out,iz.out⟩
    case round =>
     clear HG iz c0 c1;obtain ⟨k,hk,rfl,Yq,hx⟩:=hrel;have HX:=hid hx;have lq:=hid Yq;have c0:=(lk.out.ext hx).cell 0;have c1:=(lk.out.ext hx).cell 1;simp only [Go.Tw.gA,Go.Tw.gB,Go.Tw.gC] at c0 c1;clear Yq hx;obtain rfl | rfl | rfl:k=0 ∨ k=1 ∨ k=2:=by omega
     . go_wp2_with (refine Q1r (o:=⟨some 33,_,_,_,_,_⟩) rfl ?_; refine X2a (.tmp 31) (.tmp 32) 160 rfl W0.heap.size 159 i0 (.agg #[.int .i64 0,.int .i64 0,.int .i64 0,.slice none 0 0]) 4 48 underlying160 hi fq mq iq rfl (by decide) Q3f Q4t _ (X8f l1 l2 0) l1 rfl lq.out A ca rfl (Y9y (HA.out.below HX.out)) sj.out (by first | (rw [Q5a]; omega) | (show 0 + _ <= _; omega)) (by decide) HX.out.size ?_; intro v' w9 Oq Pq)
       have hx':Ext W0 w9:=Below.grown HX.out Pq (by have:=HX.out.size; omega) (fun j hj=>(lq.out.lt j hj).1)
       have HX':=hid hx';have HOW':=hid Oq;clear hx' Oq Pq;go_wp2;go_roundw
       case rel=>exact ⟨1,by omega,rfl,by rw [Q5a]; exact HOW'.out,HX'.out⟩
       case measure=>simp [intOf]
     . go_wp2_with (refine Q1r (o:=⟨some 33,_,_,_,_,_⟩) rfl ?_; refine X2a (.tmp 31) (.tmp 32) 160 rfl W0.heap.size 159 i0 (.agg #[.int .i64 0,.int .i64 0,.int .i64 0,.slice none 0 0]) 4 48 underlying160 hi fq mq iq rfl (by decide) Q3f Q4t _ (X8f l1 l2 1) l2 rfl lq.out B cb rfl (Y9y (HB.out.below HX.out)) rj.out (by first | (rw [Q5a]; omega) | (show 0 + _ <= _; omega)) (by decide) HX.out.size ?_; intro v' w9 Oq Pq)
       have hx':Ext W0 w9:=Below.grown HX.out Pq (by have:=HX.out.size; omega) (fun j hj=>(lq.out.lt j hj).1)
       have HX':=hid hx';have HOW':=hid Oq;clear hx' Oq Pq;go_wp2;go_roundw
       case rel=>exact ⟨2,by omega,rfl,by rw [Q6l]; exact HOW'.out,HX'.out⟩
       case measure=>simp [intOf]
     . go_wp2
       go_ret;exact ⟨_,rfl,by rw [<- Q6l]; exact lq.out,HX.out⟩
end Go.Proofs
namespace Go.Proofs
open Go.Lib
def parts (c:UInt8):List UInt8 -> List (List UInt8)
 | []=>[[]]
 | b :: l=>if b=c then [] :: parts c l else match parts c l with
   | []=>[[b]]
   | x :: r=>(b :: x) :: r
def glue (c:UInt8):List (List UInt8) -> List UInt8
 | []=>[]
 | [x]=>x
 | x :: y :: r=>x ++ c :: glue c (y :: r)
end Go.Proofs
namespace Go.Proofs
open Go.Tw
def textOf (ls:List (List UInt8)):List UInt8:=(ls.map (· ++ [10])).flatten
def K1e (x:Int):UInt8:=UInt8.ofNat (48 + x.toNat)
def K2g:List UInt8:=[111,112,101,110]
def K0r:List UInt8:=[99,108,111,115,101]
def J9p (c:Bool):List UInt8:=if c then K0r else K2g
def Z0j (r:Rul):List (List UInt8):=r.classes.map (fun x=>[K1e x]) ++ [J9p r.close]
def X1o (r:Rul):List UInt8:=glue 32 (Z0j r)
def Y7f (p:List Rul):List UInt8:=textOf (p.map X1o)
def Q6q (r:Rul):Int:=if r.classes.length=0 then 12 else if 6 < r.classes.length then 5 else Q0y r.classes 9
def Q8d (p:List Rul):Int:=if 48 < p.length then 5 else Q0h (p.map Q6q)
def J6p (p:List Rul):ByteArray:=⟨(Y7f p).toArray⟩
end Go.Proofs
namespace Go.Proofs
open Go.RowKit Go.Tw Go.Flow Tryz
attribute [local go_sem] Oper.semAt_some
def Q5k (x:Int):ByteArray:=⟨(Lib.decDigits x.toNat).toArray⟩
theorem J2v (w:World) (x:Int) (h0:0 <= x) (h1:x < 100):Calls prog 147 #[.int .i64 x] w fun e w'=>e=.returned (.string (Q5k x)) /\ w'=w:=by
 obtain ⟨n,rfl⟩:∃ n:Nat,x=n:=⟨x.toNat,by omega⟩
 exact Tryz.strconv_Itoa_small n (by omega) w
theorem J2i (l:List Int) {k:Nat} (hk:k < l.length):(l.map Q5k).take k ++ [Q5k (ix l k)]=(l.map Q5k).take (k + 1):=by
 rw [List.take_succ_eq_append_getElem (by simpa using hk),Q5i hk]
 simp
theorem X9s (w:World) (v:Value) (l:List Int) (hv:Q0e w v l) (lx:l.length <= 4096) (hm:∀ x ∈ l,0 <= x /\ x < 100) :
    Calls prog 146 #[v,.func (.func 147) #[] #[]] w fun e w'=>∃ x,e=.returned x /\ Q0n w' w.heap.size 9 .string x (l.map Q5k) /\ Ext w w':=by
 obtain ⟨i0,hi,fq,mq,iq⟩:=info_parts Y5s;obtain ⟨A,Qq,rfl,hl,Kq,hc⟩:=hv.opened;have HC:=hid hc;have HM:=hid hm;clear hv hc hm;go_enter func146,ntmps146;go_wp2
 go_loopw [5,10] (fun o i wr=>∃ (k:Nat),k <= l.length /\ i=.int .i64 k /\ Q0n wr w.heap.size 9 .string o ((l.map Q5k).take k) /\ Ext w wr) (fun _ i _=>l.length - (intOf i).toNat)
 case atStart=>exact ⟨0,Nat.zero_le _,rfl,Q0n.nil _ _ _ _,Ext.refl _⟩
 case round =>
  obtain ⟨k,hk,rfl,Yq,hx⟩:=hrel;have Fq:((l.map Q5k).take k).length=k:=by rw [List.length_take,List.length_map]; omega
  by_cases Tq:k < l.length
  . obtain ⟨b,off,rfl,Xq⟩:=HC.out k Tq
    have tk:=hid (J2i l Tq);have pZ:=HM.out (ix l k) (by rw [Q5i Tq]; exact List.getElem_mem Tq)
    obtain ⟨s,hs⟩:∃ s,ix l k=s:=⟨_,rfl⟩;rw [hs] at Xq pZ tk;have dQ:=hid pZ;replace Xq:=hx.cell Xq;have Mv:((l.map Q5k).take k).length <= 4096:=by omega
    obtain ⟨is,Ga⟩:∃ x,Q5k s=x:=⟨_,rfl⟩;rw [Ga] at tk;have Sm:Hid (∀ w,Calls prog 147 #[.int .i64 s] w fun e w'=>e=.returned (.string is) /\ w'=w):=hid (fun w=>by rw [<- Ga]; exact J2v w s dQ.out.1 dQ.out.2)
    clear hs pZ Fq Ga;go_wp2_with (first | (go_at_call 147; refine (Sm.out _).mono ?_; rintro e w9 ⟨rfl,rfl⟩) | (at_builtin; refine wpList_append_own _ rfl _ _ 157 rfl (w.heap.size) 9 i0 (.string emp) 1 16 underlying157 hi fq mq iq rfl (by decide) _ _ _ rfl (World.ownsRow.alloc Yq _) ⟨w9.heap.size,0,none⟩ 1 1 [.string is] rfl rfl ?_ ?_ ?_ ?_ ?_ ?_; exact Q4d _ _ _; (focus (simp [Value.oneCell'])); (focus (unfold maxLen; omega)); (focus omega); (focus (have:=hx.size; simp at this ⊢; omega)); intro v' w1 Oq Pq _))
    have hx':=Q2d hx Yq (Nat.le_refl _) Pq;go_wp2;go_roundw
    case rel=>exact ⟨k + 1,by omega,by go_num,by rw [<- tk.out]; exact Q0n.snoc Oq,hx'⟩
    case measure=>simp [intOf]; omega
  . have HE:Hid ((l.map Q5k).take k=l.map Q5k):=hid (by rw [List.take_of_length_le (by rw [List.length_map]; omega)])
    rw [HE.out] at Yq;have Qz:=hid Yq;clear Yq Fq;go_wp2;go_ret;exact ⟨_,rfl,Qz.out,hx⟩
def Y0x (xs:List ByteArray) (sep:ByteArray):ByteArray:=⟨(Lib.join (xs.map (·.data.toList)) sep.data.toList).toArray⟩
def spS:ByteArray:=⟨#[32]⟩
def nlS:ByteArray:=⟨#[10]⟩
theorem Z2k {B:Nat}:∀ {xs:List ByteArray},(∀ x ∈ xs,x.size <= B) -> Lib.lens (xs.map (·.data.toList)) <= B * xs.length
 | [],_=>by simp [Lib.lens]
 | x :: xs,h=>by
   have h1:=Z2k (xs:=xs) fun y hy=>h y (List.mem_cons_of_mem _ hy);have h2:=h x (List.mem_cons_self ..);have h3:x.data.toList.length=x.size:=Array.length_toList;simp only [Lib.lens,List.map_cons,List.sum_cons,List.length_cons,Nat.mul_succ] at h1 ⊢;omega
theorem X5g {x:Int} (h0:0 <= x) (h1:x < 100):(Q5k x).size <= 2:=by
 have h:(Q5k x).size=(Lib.decDigits x.toNat).length:=by simp [Q5k,ByteArray.size]
 rw [h,Lib.decDigits_length];have h2:x.toNat < 100:=by omega
 rw [Lib.nDigits]
 split
 . omega
 . rw [Lib.nDigits,dif_pos (by omega)]
   omega
theorem Z5w (w:World) (base:Nat) (v:Value) (xs:List ByteArray) (sep:ByteArray) (hv:Q0n w base 9 .string v xs) (hl:xs.length <= 4096) (hne:xs ≠ []) (hs:∀ x ∈ xs,x.size <= 5000000) (cQ:sep.size <= 16) :
    Calls prog 149 #[v,.string sep] w fun e w'=>e=.returned (.string (Y0x xs sep)) /\ Ext w w':=by
 rcases hv.cells2 with ⟨_,h⟩ | ⟨g,c,rfl,Kq,hb,hg,hc⟩
 . exact absurd h hne
 . refine Tryz.strings_Join g 0 c xs sep w (fun j x hx=>?_) hg (by omega) Kq ?_
   . obtain ⟨hj,rfl⟩:=List.getElem?_eq_some_iff.1 hx
     exact hc j hj
   . cases xs with
     | nil=>exact absurd rfl hne
     | cons x r =>
       have h1:=Z2k hs;have h2:sep.data.toList.length=sep.size:=Array.length_toList;have h4:sep.size * r.length <= 16 * 4096:=Nat.mul_le_mul cQ (by rw [List.length_cons] at hl; omega)
       have h5:5000000 * (x :: r).length <= 5000000 * 4096:=Nat.mul_le_mul_left _ hl;rw [List.map_cons,Lib.join_length,List.length_map,h2];rw [List.map_cons] at h1;omega
theorem Z6w {xs:List ByteArray} {sep:ByteArray} {B:Nat} (hl:xs.length <= 4096) (hs:∀ x ∈ xs,x.size <= B) (cQ:sep.size <= 16):(Y0x xs sep).size <= 65536 + B * 4096:=by
 have h0:(Y0x xs sep).size=(Lib.join (xs.map (·.data.toList)) sep.data.toList).length:=by simp [Y0x,ByteArray.size]
 rw [h0];cases xs with
 | nil=>simp [Lib.join_nil]
 | cons x r =>
   have h1:=Z2k hs;have h2:sep.data.toList.length=sep.size:=Array.length_toList;have h4:sep.size * r.length <= 16 * 4096:=Nat.mul_le_mul cQ (by rw [List.length_cons] at hl; omega)
   have h5:B * (x :: r).length <= B * 4096:=Nat.mul_le_mul_left _ hl;rw [List.map_cons,Lib.join_length,List.length_map,h2];rw [List.map_cons] at h1;omega
theorem Z7y (r:Rul):Q6q r=Q0h [Q0u (decide (r.classes.length=0)) 12,Q0u (decide (6 < r.classes.length)) 5,Q0h (r.classes.map fun x=>Q0f x 0 9)]:=by
 unfold Q6q Q0u Q0y;simp only [Q0p]
 by_cases h0:r.classes.length=0
 . simp [h0]
 . by_cases h6:6 < r.classes.length
   . simp [h0,h6]
   . obtain ⟨x,hx⟩:∃ x,Q0h (r.classes.map fun x=>Q0f x 0 9)=x:=⟨_,rfl⟩
     rw [hx]
     by_cases he:x=0
     . simp [h0,h6,he,Q0h]
     . simp [h0,h6,he]
def Y9l (p:List Rul) (k:Nat):Int:=Q6q (p.getD k default)
theorem Y9x {p:List Rul} {k:Nat} (hk:k < p.length):Q0h ((p.drop k).map Q6q)=if Y9l p k=0 then Q0h ((p.drop (k + 1)).map Q6q) else Y9l p k:=by
 rw [List.drop_eq_getElem_cons hk,List.map_cons,Q0p,Y9l,Q0t _ hk]
theorem Y3c (w:World) (v:Value) (p:List Rul) (hv:Q0m w v p) (hr:∀ r ∈ p,r.classes.length <= 4096) :
    Calls prog 145 #[v] w fun e w'=>e=.returned (.int .i64 (Q8d p)) /\ Ext w w':=by
 obtain ⟨a,rfl,h2⟩:=hv;obtain ⟨A,Qq,rfl,hl,Kq,hc⟩:=h2.opened;have HC:=hid hc;have HR:=hid hr;clear h2 hc hr;go_enter func145,ntmps145;have SK:Hid (Q8d p=if 48 < p.length then 5 else Q0h (p.map Q6q)):=hid rfl
 obtain ⟨n,hn⟩:∃ n,p.length=n:=⟨_,rfl⟩;have HN:=hid hn;rw [hn] at SK hl HC ⊢;clear hn
 by_cases RK:48 < n
 . rw [if_pos RK] at SK
   have hI:(48:Int) < n:=by omega
   rw [SK.out];go_wp2;go_ret;exact ⟨rfl,Ext.box _ _⟩
 . rw [if_neg RK] at SK
   have hI:¬ (48:Int) < n:=by omega
   rw [SK.out];go_wp2;obtain ⟨W,Nq,k0,Sq,eW⟩:=Q1y w 38 #[.slice A n Qq];rw [Nq];clear Nq;clear k0
   go_loopw [13] (fun i wr=>∃ k:Nat,k <= n /\ i=.int .i64 k /\ Q0h ((p.drop k).map Q6q)=Q0h (p.map Q6q) /\ Ext w wr) (fun i _=>n - (intOf i).toNat)
   case atStart=>exact ⟨0,Nat.zero_le _,rfl,rfl,Sq.out⟩
   case round =>
    obtain ⟨k,hk,rfl,XY,lj⟩:=hrel
    by_cases Tq:k < n
    . have Lj:(k:Int) < n:=by omega
      obtain ⟨b,off,x,rfl,hb,e0,e1,hi⟩:=HC.out k Tq;replace e0:=lj.cell e0;replace e1:=lj.cell e1;obtain ⟨X,Rq,rfl,-,-,-⟩:=hi.opened;have hcl:(Q0k p k).length <= 4096:=by
       unfold Q0k; rw [Q0t _ (by rw [HN.out]; exact Tq)]; exact HR.out _ (List.getElem_mem _)
      have m5:=Y9x (p:=p) (k:=k) (by rw [HN.out]; exact Tq)
      have Wz:=Z7y (p.getD k default);change Y9l p k=Q0h [Q0u (decide ((Q0k p k).length=0)) 12,Q0u (decide (6 < (Q0k p k).length)) 5,Q0h ((Q0k p k).map fun x=>Q0f x 0 9)] at Wz;rw [XY] at m5;have HI:=hid (hi.ext lj);have Qg:=hid lj;obtain ⟨cs,Bk⟩:∃ c,Q0k p k=c:=⟨_,rfl⟩;obtain ⟨cb,Rj⟩:∃ c,Q3a p k=c:=⟨_,rfl⟩;obtain ⟨re,QK⟩:∃ c,Y9l p k=c:=⟨_,rfl⟩;obtain ⟨fe,PK⟩:∃ c,Q0h (p.map Q6q)=c:=⟨_,rfl⟩;rw [Bk] at e0 hcl Wz HI;rw [Rj] at e1;rw [QK] at Wz m5;rw [PK] at m5;have Pk:=hid PK;have Vv:=hid Wz;have WY:=hid m5;clear XY Bk Rj QK hi Wz m5 lj;obtain ⟨wq,rfl⟩:∃ X,X=wr:=⟨_,rfl⟩;go_wp2_with fail;obtain ⟨W,Nq,k0,Sq,eW⟩:=Q1y wq 167 #[.slice X cs.length Rq,.bool cb];rw [Nq];clear Nq;obtain ⟨gr,Xy⟩:∃ x,wq.heap.size=x:=⟨_,rfl⟩;rw [Xy] at k0 ⊢;obtain ⟨w3,rfl⟩:∃ x,x=W:=⟨_,rfl⟩;have Dj:Ext wq w3:=Sq.out;have S2:=hid k0;have VY:=hid (HI.out.ext Dj);have Uy:=hid (Qg.out.trans Dj);have Vq:=(Ext.refl w3).drew;obtain ⟨L,hL⟩:∃ L,cs.length=L:=⟨_,rfl⟩;have Ev:=VY.out;rw [hL] at Ev;have Rm:=hid Ev;obtain ⟨fe9,bQ⟩:∃ x,Q0h (cs.map fun x=>Q0f x 0 9)=x:=⟨_,rfl⟩
      obtain ⟨z0,fq⟩:∃ x,decide (cs.length=0)=x:=⟨_,rfl⟩;obtain ⟨z6,Fa⟩:∃ x,decide (6 < cs.length)=x:=⟨_,rfl⟩;have Wz:=Vv.out;rw [fq,Fa,bQ] at Wz;have TG:Hid (((L:Int) == 0)=z0):=hid (by rw [<- fq,hL]; cases L <;> simp; omega)
      have Qm:Hid (decide ((6:Int) < L)=z6):=hid (by rw [<- Fa,hL]; simp; omega)
      have Pm:=hid bQ;rw [hL] at S2 ⊢;have Sf:=hid (fun (W:World) (u:Value) (h:Q0e W u [Q0u z0 12,Q0u z6 5,fe9])=>first_any W u _ h);rw [<- Wz] at Sf;clear k0 Dj Xy e0 e1 Sq hL Ev bQ fq Fa Wz;refine Flow.Q1h [.p,.w,.p,.p,.w,.p,.w,.p,.p,.w,.p,.w,.w,.w,.w,.w,.p] [0,1,2,3,4,5,6,7,8,9,10,11,12,13,14,15,16] [[],[0],[1],[2],[3],[],[5],[6],[7],[4,8],[],[10],[9,11],[12],[4,9,13],[13,14],[0,1,2,3,4,5,6,7,8,9,10,11,12,13,14,15]]
       [.c 0 (.pointer (some ⟨gr,0,none⟩)),.c 1 (.slice X L Rq),.c 2 (.int .i64 ((L:Nat):Int)),.c 3 (.bool (z0)),.c 4 (.int .i64 (Q0u (z0) 12)),.c 5 (.pointer (some ⟨gr,0,none⟩)),.c 6 (.slice X L Rq),.c 7 (.int .i64 ((L:Nat):Int)),.c 8 (.bool (z6)),.c 9 (.int .i64 (Q0u (z6) 5)),.c 10 (.pointer (some ⟨gr,0,none⟩)),.c 11 (.slice X L Rq),⟨fun v wz=>(fun v w'=>Q0e w' (v 12) (cs.map fun x=>Q0f x 0 9)) v wz,by intro v a b hx h; exact Q0e.ext h hx⟩,.c 13 (.int .i64 (fe9)),⟨fun v wz=>(fun v w'=>Q0e w' (v 14) [Q0u (z0) 12,Q0u (z6) 5,fe9]) v wz,by intro v a b hx h; exact Q0e.ext h hx⟩,.c 15 (.int .i64 re),.c 16 (.int .i64 re)]
       (by kernel_rfl) rfl (by kernel_rfl) ⟨?g0,?g1,?g2,?g3,?g4,?g5,?g6,?g7,?g8,?g9,?g10,?g11,?g12,?g13,?g14,?g15,?g16,trivial⟩ ?post
      case g0 | g5 | g10=>
       intro v w1 hx;intro bb hbb;subst hbb;refine ⟨_,fun w=>?_,rfl⟩;go_simp
      case g1 | g6 | g11=>
       intro v w1 hx;(repeat intro (zq:v _=_));intro bb hbb;subst hbb;have n0:w1.cell? ⟨gr,0,none⟩=some (.slice X L Rq):=(S2.out.ext (Vq.trans hx)).cell 0;intro K hK;go_simp;exact hK _ _ (Ext.refl _) rfl
      case g2 | g7=>
       intro v w1 hx;(repeat intro (zq:v _=_));intro bb hbb;subst hbb;refine ⟨_,fun w=>?_,rfl⟩;go_simp
      case g3=>
       intro v w1 hx;(repeat intro (zq:v _=_));intro bb hbb;subst hbb;refine ⟨.bool z0,fun w=>?_,rfl⟩;go_simp;exact TG.out
      case g4=>
       intro v w1 hx;(repeat intro (zq:v _=_));intro bb hbb;subst hbb;intro K hK;go_simp;refine Q0d (Q2s w1 (z0) 12) ?_;rintro e w2 ⟨rfl,rfl⟩;exact ⟨_,rfl,hK _ _ (Ext.refl _) rfl⟩
      case g8=>
       intro v w1 hx;(repeat intro (zq:v _=_));intro bb hbb;subst hbb;refine ⟨.bool z6,fun w=>?_,rfl⟩;go_simp;exact Qm.out
      case g9=>
       intro v w1 hx;(repeat intro (zq:v _=_));intro bb hbb;subst hbb;intro K hK;go_simp;refine Q0d (Q2s w1 (z6) 5) ?_;rintro e w2 ⟨rfl,rfl⟩;exact ⟨_,rfl,hK _ _ (Ext.refl _) rfl⟩
      case g12=>
       intro v w1 hx;(repeat intro (zq:v _=_));intro bb hbb;subst hbb;intro K hK;go_simp;refine Q0d (X0r w1 _ cs (Rm.out.ext (Vq.trans hx)) hcl) ?_;rintro e w2 ⟨x,rfl,h1,Mq⟩;exact ⟨_,rfl,hK _ _ Mq h1⟩
      case g13=>
       intro v w1 hx (q12:(fun v w'=>Q0e w' (v 12) (cs.map fun x=>Q0f x 0 9)) v w1);intro bb hbb;subst hbb;intro K hK;go_simp;refine Q0d ((Pm.out ▸ first_any w1 _ _ q12)) ?_;rintro e w2 ⟨rfl,rfl⟩;exact ⟨_,rfl,hK _ _ (Ext.refl _) rfl⟩
      case g14=>
       intro v w1 hx;(repeat intro (zq:v _=_));intro bb hbb;subst hbb;intro K hK;go_simp;exact hK _ _ (Ext.box _ _) (Q1v (l:=[Q0u (z0) 12,Q0u (z6) 5,fe9]) (by simp))
      case g15=>
       intro v w1 hx (q13:v 13=_) (q14:(fun v w'=>Q0e w' (v 14) [Q0u (z0) 12,Q0u (z6) 5,fe9]) v w1);intro bb hbb;subst hbb;intro K hK;go_simp;refine Q0d (Sf.out w1 _ q14) ?_;rintro e w2 ⟨rfl,rfl⟩;exact ⟨_,rfl,hK _ _ (Ext.refl _) rfl⟩
      case g16=>
       intro v w1 hx (q0:v 0=_) (q1:v 1=_) (q2:v 2=_) (q3:v 3=_) (q4:v 4=_) (q5:v 5=_) (q6:v 6=_) (q7:v 7=_) (q8:v 8=_) (q9:v 9=_) (q10:v 10=_) (q11:v 11=_) _ (q13:v 13=_) _ (q15:v 15=_);intro bb hbb;subst hbb;refine ⟨_,fun w=>?_,rfl⟩;go_simp
      case post =>
       intro v w1 hx;(iterate 12 intro (zq:v _=_));intro (q12:(fun v w'=>Q0e w' (v 12) (cs.map fun x=>Q0f x 0 9)) v w1);(iterate 1 intro (zq:v _=_));intro (q14:(fun v w'=>Q0e w' (v 14) [Q0u (z0) 12,Q0u (z6) 5,fe9]) v w1);(iterate 2 intro (zq:v _=_));simp only [Flow.All,Flow.acts,Act.put];go_simp;have Yx:=hid (Uy.out.trans (Vq.trans hx));clear hx Vq q12 q14;(repeat clear zq)
       by_cases fz:re=0
       . have EG:(re != 0)=false:=by simp [fz]
         have hd:=WY.out;rw [if_pos fz] at hd;clear fz;go_wp2;go_roundw
         case rel=>exact ⟨k + 1,by omega,by go_num,by rw [<- hd]; exact Pk.out.symm,Yx.out⟩
         case measure=>simp [intOf]; omega
       . have EG:(re != 0)=true:=by simp [fz]
         have hd:=WY.out;rw [if_neg fz] at hd;have HD:=hid hd;clear fz hd;go_wp2;go_ret;exact ⟨by rw [<- Pk.out.symm,HD.out]; rfl,Yx.out⟩
    . have Lj:¬ (k:Int) < n:=by omega
      have nj:k=n:=by omega
      have hz:Q0h (p.map Q6q)=0:=by rw [<- XY,nj,List.drop_eq_nil_of_le (by rw [HN.out]; omega)]; rfl
      have HZ:=hid hz;clear XY hz;go_wp2;go_ret;exact ⟨by rw [HZ.out]; rfl,lj⟩
def Words (w:World):Prop:=w.cell? ⟨0,0,none⟩=some (.string ⟨#[111,112,101,110]⟩) /\ w.cell? ⟨0,1,none⟩=some (.string ⟨#[99,108,111,115,101]⟩)
theorem Words.ext {w w':World} (h:Words w) (hx:Ext w w'):Words w':=⟨hx.cell h.1,hx.cell h.2⟩
def X5j (c:Bool):ByteArray:=⟨(J9p c).toArray⟩
def J0z (l:List Int) (c:Bool):ByteArray:=Y0x (l.map Q5k ++ [X5j c]) spS ++ nlS
theorem Y9o (c:UInt8):∀ l:List (List UInt8),Lib.join l [c]=glue c l
 | []=>rfl
 | [x]=>Lib.join_one x [c]
 | x :: y :: r=>by
   have ih:=Y9o c (y :: r);rw [Lib.join_cons] at ih ⊢;show x ++ (([c] ++ y) ++ Lib.joinTail [c] r)=x ++ c :: glue c (y :: r);rw [<- ih];simp
theorem J3s {x:Int} (h0:0 <= x) (h9:x <= 9):(Q5k x).data.toList=[K1e x]:=by
 obtain ⟨n,rfl⟩:∃ n:Nat,x=n:=⟨x.toNat,by omega⟩
 have hn:n < 10:=by omega
 have key:∀ n:Nat,n < 10 -> (Q5k (n:Int)).data.toList=[K1e (n:Int)]:=by
  intro n hn;show (Lib.decDigits ((n:Int).toNat)).toArray.toList=_;rw [List.toList_toArray,Int.toNat_natCast,Lib.decDigits];simp [hn,K1e]
 exact key n hn
theorem line_text {r:Rul} (hd:∀ x ∈ r.classes,0 <= x /\ x <= 9):(J0z r.classes r.close).data.toList=X1o r ++ [10]:=by
 have e:(Y0x (r.classes.map Q5k ++ [X5j r.close]) spS).data.toList=X1o r:=by
  show (Lib.join ((r.classes.map Q5k ++ [X5j r.close]).map (·.data.toList)) [32]).toArray.toList=_;rw [List.toList_toArray,Y9o];unfold X1o Z0j
  congr 1
  rw [List.map_append,List.map_map]
  congr 1
  exact List.map_congr_left fun x hx=>J3s (hd x hx).1 (hd x hx).2
 unfold J0z;rw [ByteArray.data_append,Array.toList_append,e];rfl
def Q9p (p:List Rul) (k:Nat):List UInt8:=textOf ((p.take k).map X1o)
theorem Z3h {p:List Rul} {k:Nat} (hk:k < p.length):Q9p p (k + 1)=Q9p p k ++ (X1o (p.getD k default) ++ [10]):=by
 unfold Q9p textOf;rw [List.take_succ_eq_append_getElem hk,Q0t _ hk,List.map_append,List.map_append,List.flatten_append];simp only [List.map_cons,List.map_nil,List.flatten_cons,List.flatten_nil,List.append_nil]
theorem Z8h (p:List Rul):Q9p p p.length=Y7f p:=by unfold Q9p Y7f; rw [List.take_length]
structure K2e (r:Rul):Prop where
 len:r.classes.length <= 6
 dig:∀ x ∈ r.classes,0 <= x /\ x <= 9
theorem Q6f {l:List Int} {m:Int} (h:Q0y l m=0):∀ x ∈ l,0 <= x /\ x <= m:=by
 unfold Q0y at h
 induction l with
 | nil=>intro x hx; cases hx
 | cons y l ih =>
   rw [List.map_cons,Q0p] at h
   by_cases hy:Q0f y 0 m=0
   . rw [if_pos hy] at h
     intro x hx
     rcases List.mem_cons.1 hx with rfl | hx
     . unfold Q0f at hy
       by_cases hc:x < 0 ∨ m < x
       . rw [if_pos hc] at hy; cases hy
       . omega
     . exact ih h x hx
   . rw [if_neg hy] at h; exact absurd h hy
theorem Y8f {l:List Int} (h:Q0h l=0):∀ x ∈ l,x=0:=by
 induction l with
 | nil=>intro x hx; cases hx
 | cons y l ih =>
   rw [Q0p] at h
   by_cases hy:y=0
   . rw [if_pos hy] at h
     intro x hx
     rcases List.mem_cons.1 hx with rfl | hx
     . exact hy
     . exact ih h x hx
   . rw [if_neg hy] at h; exact absurd h hy
theorem Y7p {p:List Rul} (h:Q8d p=0):p.length <= 48 /\ ∀ r ∈ p,K2e r:=by
 unfold Q8d at h
 by_cases RK:48 < p.length
 . rw [if_pos RK] at h; cases h
 . rw [if_neg RK] at h
   refine ⟨by omega,fun r hr=>?_⟩
   have h1:=Y8f h _ (List.mem_map_of_mem hr);unfold Q6q at h1
   by_cases h0:r.classes.length=0
   . rw [if_pos h0] at h1; cases h1
   . rw [if_neg h0] at h1
     by_cases h6:6 < r.classes.length
     . rw [if_pos h6] at h1; cases h1
     . rw [if_neg h6] at h1
       exact ⟨by omega,Q6f h1⟩
theorem Z7m {l:List Int} {c:Bool} (hl:l.length <= 6) (hd:∀ x ∈ l,0 <= x /\ x <= 9):(Y0x (l.map Q5k ++ [X5j c]) spS).size <= 5000000:=by
 have h:=Z6w (xs:=l.map Q5k ++ [X5j c]) (sep:=spS) (B:=8) (by simp; omega) (fun x hx=>by
  rcases List.mem_append.1 hx with hx | hx
  . obtain ⟨y,hy,rfl⟩:=List.mem_map.1 hx
    have h1:=hd y hy;have:=X5g h1.1 (by omega:y < 100)
    omega
  . rw [List.mem_singleton.1 hx]; cases c <;> decide) (by decide)
 omega
theorem X6k {w w':World} {base n size B:Nat} {e:TypeId} {v:Value} {xs:List Value} {o:Obj} (Yq:w.ownsRow base e size v n xs) (hg:(w.alloc o).grownBy w' v.ownBlock) (hb:B <= base) (hB:B <= w.heap.size):Below B w w' :=
 Below.grown ((Below.refl B w).alloc hB o) hg (by simp; omega) (fun k hk=>Nat.le_trans hb (Yq.lt k hk).1)
def Z5p (p:List Rul):ByteArray:=if Q8d p=0 then J6p p else emp
theorem Z7a (w:World) (v:Value) (p:List Rul) (hv:Q0m w v p) (hr:∀ r ∈ p,r.classes.length <= 4096) (hW:Words w) :
    Calls prog 81 #[v] w fun e w'=>e=.returned (.tuple #[.string (Z5p p),.int .i64 (Q8d p)]) /\ Ext w w':=by
 obtain ⟨i0,hi,fq,mq,iq⟩:=info_parts Y5s;obtain ⟨a,rfl,h2⟩:=hv;obtain ⟨A,Qq,rfl,hl,Kq,hc⟩:=h2.opened;have H2:=hid h2;have HC:=hid hc;have HR:=hid hr;have HW:=hid hW;clear h2 hc hr hW;obtain ⟨n,hn⟩:∃ n,p.length=n:=⟨_,rfl⟩;have HN:=hid hn;rw [hn] at hl HC H2 ⊢;go_enter func81,ntmps81;go_wp2_with fail;change Calls _ _ _ (w.alloc (.cells #[.slice A n Qq] 38)) _;obtain ⟨W,Nq,k0,Sq,eW⟩:=Q1y w 38 #[.slice A n Qq];rw [Nq];clear Nq;have K0:=hid k0;refine (Y3c W _ p ⟨_,rfl,H2.out.ext Sq.out⟩ HR.out).mono ?_;rintro e w5 ⟨rfl,Cq⟩;have vq:=hid (Sq.out.trans Cq);have UY:=k0.ext Cq;obtain ⟨gp,Yk⟩:∃ z,w.heap.size=z:=⟨_,rfl⟩;rw [Yk] at UY ⊢;clear k0 Cq Yk eW
 by_cases he:Q8d p=0
 . have aQ:=Y7p he
   have HF:=hid aQ.2;have Om:n <= 48:=by have:=aQ.1; omega
   have Ex:Hid (Z5p p=J6p p):=hid (if_pos he);have HE:=hid he;obtain ⟨E,hE⟩:∃ E,Q8d p=E:=⟨_,rfl⟩;have hne:(E != 0)=false:=by rw [<- hE]; simp [he]
   rw [hE];have c5:(w5.alloc (.cells #[.pointer none,.slice none 0 0] 214)).cell? ⟨gp,0,none⟩=some (.slice A n Qq):=(UY.ext (Ext.box w5 _)).cell 0;have ZJ:=hid hE;clear UY he aQ hE hn;go_wp2;have hbf:=Bld.fresh w5;have Ea:=Ext.box w5 (.cells #[.pointer none,.slice none 0 0] 214);obtain ⟨gb,Jw⟩:∃ z,w5.heap.size=z:=⟨_,rfl⟩;have B9:=hid Jw;have Da:(w5.alloc (.cells #[.pointer none,.slice none 0 0] 214)).heap.size=gb + 1:=by rw [<- Jw]; simp
   rw [Jw] at hbf ⊢;obtain ⟨wf,Bz⟩:∃ z,w5.alloc (.cells #[.pointer none,.slice none 0 0] 214)=z:=⟨_,rfl⟩;rw [Bz] at hbf Ea Da ⊢;have Nm:=hid hbf;have Rf:=hid (vq.out.trans Ea);have Ur:=hid Da;have D2:Hid (w.heap.size <= gb):=hid (by have:=vq.out.size; omega)
   clear hbf Ea Da Bz Jw c5
   go_loopw [18] (fun i wr=>∃ k:Nat,k <= n /\ i=.int .i64 k /\ Bld wr gb (Q9p p k) /\ Below gb wf wr /\ (Q9p p k).length <= k * 6000000) (fun i _=>n - (intOf i).toNat)
   case atStart=>exact ⟨0,Nat.zero_le _,rfl,Nm.out,Below.refl _ _,by simp [Q9p,textOf]⟩
   case round =>
    obtain ⟨k,hk,rfl,jx,dq,Fq⟩:=hrel
    by_cases Tq:k < n
    . have Lj:(k:Int) < n:=by omega
      have Dq:Ext w wr:=Below.trans Rf.out (dq.mono D2.out);obtain ⟨b,off,x,rfl,hb,e0,e1,mz⟩:=HC.out k Tq;replace e0:=Dq.cell e0;replace e1:=Dq.cell e1;have Oj:k < p.length:=by rw [HN.out]; exact Tq
      have zZ:=HF.out (p.getD k default) (by rw [Q0t _ Oj]; exact List.getElem_mem Oj)
      have Bg:=Z3h Oj;have OK:=line_text zZ.dig;obtain ⟨X,Rq,rfl,-,-,-⟩:=mz.opened;have HI:=hid (mz.ext Dq);have rq:=hid Dq;have Kv:=hid jx;have Q8:=hid dq;have YJ:=HW.out.ext Dq;have l5:(Q0k p k).length <= 6:=zZ.len;have O7:Hid (∀ x ∈ Q0k p k,0 <= x /\ x <= 9):=hid zZ.dig;have P8:=Z7m (c:=Q3a p k) l5 O7.out;rw [<- OK] at Bg;change Q9p p (k + 1)=Q9p p k ++ (J0z (Q0k p k) (Q3a p k)).data.toList at Bg;obtain ⟨cs,Bk⟩:∃ c,Q0k p k=c:=⟨_,rfl⟩;obtain ⟨cb,Rj⟩:∃ c,Q3a p k=c:=⟨_,rfl⟩;obtain ⟨tx,Qf⟩:∃ c,Q9p p k=c:=⟨_,rfl⟩;rw [Bk] at e0 HI l5 O7 P8 Bg;rw [Rj] at e1 P8 Bg;rw [Qf] at Kv Bg Fq;have TY:=hid Bg;have NK:=hid P8;obtain ⟨L,hL⟩:∃ L,cs.length=L:=⟨_,rfl⟩;have Ww:=hid hL;rw [hL] at e0 HI l5;clear jx dq Dq mz zZ OK Bk Rj Qf Bg P8 hL;obtain ⟨wq,rfl⟩:∃ X,X=wr:=⟨_,rfl⟩;cases cb with
      | false =>
        have XJ:=YJ.ext (Ext.box wq (.cells #[.slice X L Rq,.bool false] 167));have w0:=XJ.1;have w9:=XJ.2;clear XJ;go_wp2_with fail;obtain ⟨W,Nq,k0,Sq,eW⟩:=Q1y wq 167 #[.slice X L Rq,.bool false];rw [Nq];clear Nq;clear k0;refine (X9s W _ cs (Ww.out ▸ HI.out.ext Sq.out) (by rw [Ww.out]; omega) (fun x hx=>by have:=O7.out x hx; omega)).mono ?_
        rintro e w3 ⟨u,rfl,hu,Dj⟩;have Uy:=hid (Sq.out.trans Dj);have MK:=hid Sq.out.size;have Ca:(cs.map Q5k).length <= 6:=by rw [List.length_map,Ww.out]; exact l5
        have Jv:W.heap.size <= w3.heap.size:=Dj.size;clear w0 w9 e0 e1;go_wp2_with ((at_builtin; refine wpList_append_own _ rfl _ _ 157 rfl (W.heap.size) 9 i0 (.string emp) 1 16 underlying157 hi fq mq iq rfl (by decide) _ _ _ rfl (World.ownsRow.alloc hu _) ⟨w3.heap.size,0,none⟩ 1 1 [.string ⟨#[111,112,101,110]⟩] rfl rfl ?_ ?_ ?_ ?_ ?_ ?_; exact Q4d _ _ _; (focus (simp [Value.oneCell'])); (focus (unfold maxLen; omega)); (focus omega); (focus (have:=Dj.size; simp at this ⊢; omega)); intro v' w1 Oq Pq _); refine halted ?_)
        have Uv:Ext wq w1:=Below.trans Uy.out (X6k hu Pq (Nat.le_trans MK.out (Nat.le_refl _)) (Nat.le_trans MK.out Jv));have xy:Q0n w1 W.heap.size 9 .string v' (cs.map Q5k ++ [X5j false]):=Q0n.snoc Oq;have pq:∀ x ∈ cs.map Q5k ++ [X5j false],x.size <= 5000000:=by
         intro x hx
         rcases List.mem_append.1 hx with hx | hx
         . obtain ⟨y,hy,rfl⟩:=List.mem_map.1 hx
           have h1:=O7.out y hy;have:=X5g h1.1 (by omega:y < 100)
           omega
         . rw [List.mem_singleton.1 hx]; decide
        have HJ:=hid (Z5w w1 W.heap.size v' _ spS xy (by have:=Ww.out; rw [List.length_append,List.length_map]; show cs.length + 1 <= _; omega) (by simp) pq (by decide))
        have O8:=hid Uv;have C1:Hid (J0z cs false=Y0x (cs.map Q5k ++ [X5j false]) spS ++ nlS):=hid rfl;have WJ:=NK.out;obtain ⟨js,yw⟩:∃ j,Y0x (cs.map Q5k ++ [X5j false]) spS=j:=⟨_,rfl⟩;rw [yw] at HJ C1 WJ;have HJ':Hid (Calls prog 149 #[v',.string ⟨#[32]⟩] w1 fun e w'=>e=.returned (.string js) /\ Ext w1 w'):=hid HJ.out;have Xf:¬ 9223372036854775807 < js.size + 1:=by omega
        have Mm:js.size + 1 <= 9223372036854775807:=by omega
        have Lm:js.size < 9223372036854775807:=by omega
        clear Oq Pq Uv xy pq HJ yw hu Dj Jv Ca;unfold Q1o;go_wp2_with (go_at_call 149; refine HJ'.out.mono ?_; rintro e w6 ⟨rfl,Kj⟩; refine halted ?_);have Yx:=hid (O8.out.trans Kj);have VJ:=hid (write_any w6 gb tx (js ++ nlS) (Kv.out.ext Yx.out) (by rw [ByteArray.size_append]; have:nlS.size=1:=rfl; omega))
        have HWS':Hid (Calls prog 148 #[.pointer (some ⟨gb,0,none⟩),.string (js ++ ⟨#[10]⟩)] w6 fun e w'=>e=.returned (.tuple #[.int .i64 ((js ++ nlS).size),.nilIface]) /\ Bld w' gb (tx ++ (js ++ nlS).data.toList) /\ Below gb w6 w'):=hid VJ.out;clear Kj VJ;unfold Q1o;go_wp2_with (go_at_call 148; refine HWS'.out.mono ?_; rintro e w7 ⟨rfl,Gw,W4⟩);go_roundw
        case rel=>exact ⟨k + 1,by omega,by go_num,by rw [TY.out,C1.out]; exact Gw,Below.trans Q8.out (Below.trans (Yx.out.mono (by have:=Kv.out.lt; omega)) W4),by rw [TY.out,C1.out,List.length_append,Array.length_toList]; show tx.length + (js ++ nlS).size <= _; rw [ByteArray.size_append]; have:nlS.size=1:=rfl; omega⟩
        case measure=>simp [intOf]; omega
      | true =>
        have XJ:=YJ.ext (Ext.box wq (.cells #[.slice X L Rq,.bool true] 167));have w0:=XJ.1;have w9:=XJ.2;clear XJ;go_wp2_with fail;obtain ⟨W,Nq,k0,Sq,eW⟩:=Q1y wq 167 #[.slice X L Rq,.bool true];rw [Nq];clear Nq;clear k0;refine (X9s W _ cs (Ww.out ▸ HI.out.ext Sq.out) (by rw [Ww.out]; omega) (fun x hx=>by have:=O7.out x hx; omega)).mono ?_
        rintro e w3 ⟨u,rfl,hu,Dj⟩;have Uy:=hid (Sq.out.trans Dj);have MK:=hid Sq.out.size;have Ca:(cs.map Q5k).length <= 6:=by rw [List.length_map,Ww.out]; exact l5
        have Jv:W.heap.size <= w3.heap.size:=Dj.size;clear w0 w9 e0 e1;go_wp2_with ((at_builtin; refine wpList_append_own _ rfl _ _ 157 rfl (W.heap.size) 9 i0 (.string emp) 1 16 underlying157 hi fq mq iq rfl (by decide) _ _ _ rfl (World.ownsRow.alloc hu _) ⟨w3.heap.size,0,none⟩ 1 1 [.string ⟨#[99,108,111,115,101]⟩] rfl rfl ?_ ?_ ?_ ?_ ?_ ?_; exact Q4d _ _ _; (focus (simp [Value.oneCell'])); (focus (unfold maxLen; omega)); (focus omega); (focus (have:=Dj.size; simp at this ⊢; omega)); intro v' w1 Oq Pq _); refine halted ?_)
        have Uv:Ext wq w1:=Below.trans Uy.out (X6k hu Pq (Nat.le_trans MK.out (Nat.le_refl _)) (Nat.le_trans MK.out Jv));have xy:Q0n w1 W.heap.size 9 .string v' (cs.map Q5k ++ [X5j true]):=Q0n.snoc Oq;have pq:∀ x ∈ cs.map Q5k ++ [X5j true],x.size <= 5000000:=by
         intro x hx
         rcases List.mem_append.1 hx with hx | hx
         . obtain ⟨y,hy,rfl⟩:=List.mem_map.1 hx
           have h1:=O7.out y hy;have:=X5g h1.1 (by omega:y < 100)
           omega
         . rw [List.mem_singleton.1 hx]; decide
        have HJ:=hid (Z5w w1 W.heap.size v' _ spS xy (by have:=Ww.out; rw [List.length_append,List.length_map]; show cs.length + 1 <= _; omega) (by simp) pq (by decide))
        have O8:=hid Uv;have C1:Hid (J0z cs true=Y0x (cs.map Q5k ++ [X5j true]) spS ++ nlS):=hid rfl;have WJ:=NK.out;obtain ⟨js,yw⟩:∃ j,Y0x (cs.map Q5k ++ [X5j true]) spS=j:=⟨_,rfl⟩;rw [yw] at HJ C1 WJ;have HJ':Hid (Calls prog 149 #[v',.string ⟨#[32]⟩] w1 fun e w'=>e=.returned (.string js) /\ Ext w1 w'):=hid HJ.out;have Xf:¬ 9223372036854775807 < js.size + 1:=by omega
        have Mm:js.size + 1 <= 9223372036854775807:=by omega
        have Lm:js.size < 9223372036854775807:=by omega
        clear Oq Pq Uv xy pq HJ yw hu Dj Jv Ca;unfold Q1o;go_wp2_with (go_at_call 149; refine HJ'.out.mono ?_; rintro e w6 ⟨rfl,Kj⟩; refine halted ?_);have Yx:=hid (O8.out.trans Kj);have VJ:=hid (write_any w6 gb tx (js ++ nlS) (Kv.out.ext Yx.out) (by rw [ByteArray.size_append]; have:nlS.size=1:=rfl; omega))
        have HWS':Hid (Calls prog 148 #[.pointer (some ⟨gb,0,none⟩),.string (js ++ ⟨#[10]⟩)] w6 fun e w'=>e=.returned (.tuple #[.int .i64 ((js ++ nlS).size),.nilIface]) /\ Bld w' gb (tx ++ (js ++ nlS).data.toList) /\ Below gb w6 w'):=hid VJ.out;clear Kj VJ;unfold Q1o;go_wp2_with (go_at_call 148; refine HWS'.out.mono ?_; rintro e w7 ⟨rfl,Gw,W4⟩);go_roundw
        case rel=>exact ⟨k + 1,by omega,by go_num,by rw [TY.out,C1.out]; exact Gw,Below.trans Q8.out (Below.trans (Yx.out.mono (by have:=Kv.out.lt; omega)) W4),by rw [TY.out,C1.out,List.length_append,Array.length_toList]; show tx.length + (js ++ nlS).size <= _; rw [ByteArray.size_append]; have:nlS.size=1:=rfl; omega⟩
        case measure=>simp [intOf]; omega
    . have Lj:¬ (k:Int) < n:=by omega
      have nj:k=n:=by omega
      subst nj;have LK:Q9p p k=Y7f p:=by rw [<- HN.out]; exact Z8h p
      rw [LK] at jx;have Ba:=hid (Z4b wr gb _ jx);have rq:Hid (Ext w wr):=hid (Below.trans Rf.out (dq.mono D2.out));clear jx dq LK Fq;go_wp2_with (go_at_call 150; refine Ba.out.mono ?_; rintro e w7 ⟨rfl,W4⟩);refine bodyPost_ret (results_tmp2 results81 _ _ _) rfl ?_;exact ⟨by rw [Ex.out,<- ZJ.out,HE.out]; rfl,Below.trans rq.out (W4.mono D2.out)⟩
 . have hne:(Q8d p != 0)=true:=by simp [he]
   have Ex:Hid (Z5p p=emp):=hid (if_neg he);clear he UY;go_wp2;refine bodyPost_ret (results_tmp2 results81 _ _ _) rfl ?_;exact ⟨by rw [Ex.out]; rfl,vq.out⟩
end Go.Proofs
namespace Go.Proofs.YthnobngcipaljaaGreatDoor
open Go.ChangeShapes Go.WideShapes Go.ChangeAt Go.RowKit Go.Tw
theorem own:ownKnob Tryz.prog.godebug=none:=by kernel_rfl
theorem laidOut:laidOutB Tryz.prog=true:=by kernel_rfl
def Z8v:List (String × DataW Unit):=Rows.policyFollowsRow.laid
theorem Y5g {W:World} (h:laidMetH Tryz.prog Z8v W):Words W:=by
 rw [MakeChecks.laidMetH_plain _ _ _ (by kernel_rfl)] at h
 obtain ⟨ps,⟨g0,t0,cs0,f0,p0,q0,K7,Tr,SY,Sr,⟨g1,t1,cs1,f1,p1,q1,O0,Rr,Pf,di,⟨g2,t2,cs2,f2,p2,q2,Q2,lg,rW,te,⟨g3,t3,cs3,f3,p3,q3,za,Of,Nf,Km,_⟩,_⟩,_⟩,_⟩,_,_⟩:=h;obtain rfl:=Option.some.inj ((show Tryz.prog.globalNamed (Z8v[3]?.map (·.1)).get! = some 0 by kernel_rfl).symm.trans za)
 obtain ⟨t,ht⟩:∃ t,(Tryz.prog.globals[0]?).map (·.type)=some t:=⟨_,Of⟩;obtain rfl:=Option.some.inj (ht.symm.trans Of);have Jm:(Tryz.prog.globals[0]?).map (·.type)=some 215:=by kernel_rfl
 obtain rfl:=Option.some.inj (Jm.symm.trans ht);obtain ⟨xs,m,_,hx,Fq,Gm,TZ⟩:=DataW.trod_array Tryz.underlying215 Km;rw [Tryz.cS] at TZ;have hm:xs.map (·.1)=[.lit (.string [111,112,101,110]),.lit (.string [99,108,111,115,101])]:=by
  have:=congrArg Prod.fst hx;simp only [Rows.laid_tideway_policy_words] at this;injection this with this;exact this.symm
 obtain ⟨x0,x1,rfl⟩:∃ a b,xs=[a,b]:=by
  match xs,Gm with
  | [a,b],_=>exact ⟨a,b,rfl⟩
 simp only [List.map_cons,List.map_nil,List.cons.injEq,and_true] at hm;obtain ⟨lj,Yj⟩:=hm;obtain ⟨s0,Az,rfl,_⟩:=DataW.trod_string Tryz.underlying9 (TZ 0 (by decide))
 obtain ⟨s1,Rx,rfl,_⟩:=DataW.trod_string Tryz.underlying9 (TZ 1 (by decide))
 have e0:s0=⟨#[111,112,101,110]⟩:=by
  simp only [DataW.lit.injEq,Lit.string.injEq] at lj;obtain ⟨d⟩:=s0;obtain ⟨l⟩:=d;have h:l=[111,112,101,110]:=lj;rw [h]
 have e1:s1=⟨#[99,108,111,115,101]⟩:=by
  simp only [DataW.lit.injEq,Lit.string.injEq] at Yj;obtain ⟨d⟩:=s1;obtain ⟨l⟩:=d;have h:l=[99,108,111,115,101]:=Yj;rw [h]
 subst e0 e1;obtain ⟨l3⟩:=cs3;have zw:l3.length=2:=by
  have h:=Fq;rw [show Tryz.prog.cellsOf 215=2 from by kernel_rfl] at h
  exact h
 obtain ⟨c0,c1,rfl⟩:∃ a b,l3=[a,b]:=by
  match l3,zw with
  | [a,b],_=>exact ⟨a,b,rfl⟩
 simp at Az Rx;subst Az Rx;exact ⟨by rw [World.var?_cell za Nf 0]; rfl,by rw [World.var?_cell za Nf 1]; rfl⟩
end Go.Proofs.YthnobngcipaljaaGreatDoor
namespace Go.Proofs.YthnobngcipaljaaGreatDoor
open Go.ChangeShapes Go.WideShapes Go.ChangeAt Go.RowKit Go.Tw
theorem X2o {a b:Bool} (h:a=true) (k:b=true):(a && b)=true:=by rw [h,k]; rfl
theorem K1w {a b:Bool} (h:(a && b)=true):a=true:=by cases a <;> simp_all
theorem K1q {a b:Bool} (h:(a && b)=true):b=true:=by cases a <;> simp_all
theorem Z9f (P:Program) (f:FuncId) (fn:Func) (s:ChangeSpec) (c:OpenClaim)
    (k0:(c.wf (OpenSpec.ofChange s):Bool)=true)
    (k1:(laidOutB P:Bool)=true)
    (k2:(mapsRowed P:Bool)=true)
    (k3:(fn.params.all (P.readableRec ·):Bool)=true)
    (k4:(namedTie P c.named s.vars:Bool)=true)
    (k5:((c.stops == []):Bool)=true)
    (k6:((P.stops == []):Bool)=true)
    (k7:((c.knobs == []):Bool)=true)
    (k8:((P.stopKnobs == []):Bool)=true)
    (k9:((c.inPlace == P.inPlace f):Bool)=true)
    (k10:((c.unfollowed == P.unfollowed f):Bool)=true)
    (k11:((c.recurses == P.recurses f):Bool)=true)
    (k12:((c.named == P.varsNamed f):Bool)=true)
    (k13:((c.maps == (fn.params.toList ++ s.plain.varTypes P).any (P.mapsRec ·)):Bool)=true)
    (k14:((c.ifaces == (fn.params.toList ++ s.plain.varTypes P).any (P.ifacesRec ·)):Bool)=true)
    (k15:((c.mapsOut == P.mapsAmong fn.resultTypes.toList):Bool)=true)
    (k16:((c.loops == (fn.params.toList ++ s.plain.varTypes P).any (P.loopsFrom ·)):Bool)=true)
    (k17:((c.wideKeys == (fn.params.toList ++ s.plain.varTypes P ++ fn.resultTypes.toList).any (P.wideKeysFrom ·)):Bool)=true)
    (k18:(s.vars.all (P.varReadable ·):Bool)=true)
    (k19:(fn.resultTypes.all (fun t=>P.readableRec t && decide (t < P.types.size)):Bool)=true)
    (k20:((c.ifacesOut == fn.resultTypes.toList.any (P.ifacesRec ·)):Bool)=true)
    (k21:((c.loopsOut == fn.resultTypes.toList.any (P.loopsFrom ·)):Bool)=true)
    (k22:((c.plainKeys == P.plainKeys):Bool)=true)
    (k23:(c.shortTexts.isNone:Bool)=true)
    (k24:(P.stopsHeard:Bool)=true)
    (k25:(P.mayEnter:Bool)=true)
    (k26:((c.lifted == P.liftsFinal):Bool)=true)
    (k27:((P.make == some c.make):Bool)=true)
    (k28:(c.domain.isEmpty && (c.kinds == []):Bool)=true)
    (k29:((c.pinned == c.pinnedBy):Bool)=true)
    (k30:((c.veiled == (fn.params.toList ++ s.plain.varTypes P ++ fn.resultTypes.toList).any (P.veiledRec ·)):Bool)=true)
    (k31:(c.veiledFits P fn.params.toList (fn.params.toList ++ s.plain.varTypes P ++ fn.resultTypes.toList):Bool)=true)
   :joinedFacts P f fn s c=true:=by unfold joinedFacts; exact X2o (X2o (X2o (X2o (X2o (X2o (X2o (X2o (X2o (X2o (X2o (X2o (X2o (X2o (X2o (X2o (X2o (X2o (X2o (X2o (X2o (X2o (X2o (X2o (X2o (X2o (X2o (X2o (X2o (X2o (X2o (k0) k1) k2) k3) k4) k5) k6) k7) k8) k9) k10) k11) k12) k13) k14) k15) k16) k17) k18) k19) k20) k21) k22) k23) k24) k25) k26) k27) (by rw [if_pos (K1w k28)]; exact K1q k28)) k29) k30) k31
theorem J7o:(laidOutB Tryz.prog:Bool)=true:=by kernel_rfl
theorem J8q:(mapsRowed Tryz.prog:Bool)=true:=by kernel_rfl
theorem J8n:((Tryz.prog.stops == []):Bool)=true:=by kernel_rfl
theorem J8k:((Tryz.prog.stopKnobs == []):Bool)=true:=by kernel_rfl
theorem J5g:(Tryz.prog.stopsHeard:Bool)=true:=by kernel_rfl
theorem J4y:(Tryz.prog.mayEnter:Bool)=true:=by kernel_rfl
end Go.Proofs.YthnobngcipaljaaGreatDoor
