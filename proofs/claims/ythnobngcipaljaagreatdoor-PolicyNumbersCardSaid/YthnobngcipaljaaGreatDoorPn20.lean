/- Contract: checkText (of the program). Contract: Print (of the program). What the listed tables give; small facts on the program for the rows. joinedFacts, fact by fact (in one declaration the kernel's lid of memory is too low for this program); the facts of the program alone. What a policy among the arguments of a law of chapter 5 reads as. -/
import Derived.Test.YthnobngcipaljaaGreatDoorPn15
import Derived.Test.YthnobngcipaljaaGreatDoorPn07
import Derived.Test.YthnobngcipaljaaGreatDoorPn19
import Derived.Test.YthnobngcipaljaaGreatDoorPn11
import Derived.Test.YthnobngcipaljaaGreatDoorPn01
import Derived.Test.YthnobngcipaljaaGreatDoorRows
import Derived.Test.YthnobngcipaljaaGreatDoorTie
import Derived.Test.YthnobngcipaljaaGreatDoorCards
import Derived.ProofKit
import Derived.OpenShut
import Derived.LaidMore
import Derived.Lay
import Derived.SevenTiedAt
import Derived.Stop.Joined
set_option maxRecDepth 1000000
set_option maxHeartbeats 64000000
set_option linter.unusedVariables false
set_option linter.unusedSimpArgs false
set_option linter.constructorNameAsVariable false
open Go.Lib (hid)
namespace Go.Proofs
open Go.RowKit Go.Tw Go.Flow
attribute [local go_sem] Oper.semAt_some
theorem Z4j (r:Rul):Q6b r=Q0l [Q0v (decide (r.classes.length=0)) 12,Q0v (decide (6 < r.classes.length)) 5,Q0l (r.classes.map fun x=>Q0h x 0 9)]:=by
 unfold Q6b Q0v Q0s;simp only [Q0y]
 by_cases h0:r.classes.length=0
 . simp [h0]
 . by_cases h6:6 < r.classes.length
   . simp [h0,h6]
   . obtain ⟨x,hx⟩:∃ x,Q0l (r.classes.map fun x=>Q0h x 0 9)=x:=⟨_,rfl⟩
     rw [hx]
     by_cases he:x=0
     . simp [h0,h6,he,Q0l]
     . simp [h0,h6,he]
def Y8i (p:List Rul) (k:Nat):Int:=Q6b (p.getD k default)
theorem Y8v {p:List Rul} {k:Nat} (hk:k < p.length):Q0l ((p.drop k).map Q6b)=if Y8i p k=0 then Q0l ((p.drop (k + 1)).map Q6b) else Y8i p k:=by
 rw [List.drop_eq_getElem_cons hk,List.map_cons,Q0y,Y8i,Q0t _ hk]
theorem Y1e (w:World) (v:Value) (p:List Rul) (hv:Q0j w v p) (hr:∀ r ∈ p,r.classes.length <= 4096) :
    Calls Tryz.prog 145 #[v] w fun e w'=>e=.returned (.int .i64 (Q7i p)) /\ Ext w w':=by
 obtain ⟨a,rfl,h2⟩:=hv;obtain ⟨A,cap,rfl,hl,hcap,hc⟩:=h2.opened;have HC:=hid hc;have HR:=hid hr;clear h2 hc hr;go_enter Tryz.func145,Tryz.ntmps145;have HTE:Hid (Q7i p=if 48 < p.length then 5 else Q0l (p.map Q6b)):=hid rfl
 obtain ⟨n,hn⟩:∃ n,p.length=n:=⟨_,rfl⟩;have HN:=hid hn;rw [hn] at HTE hl HC ⊢;clear hn
 by_cases h48:48 < n
 . rw [if_pos h48] at HTE
   have hI:(48:Int) < n:=by omega
   rw [HTE.out];go_wp2;go_ret;exact ⟨rfl,Ext.box _ _⟩
 . rw [if_neg h48] at HTE
   have hI:¬ (48:Int) < n:=by omega
   rw [HTE.out];go_wp2;obtain ⟨W,hWW,k0,HXW,eW⟩:=Q1u w 38 #[.slice A n cap];rw [hWW];clear hWW;clear k0
   go_loopw [13] (fun i wr=>∃ k:Nat,k <= n /\ i=.int .i64 k /\ Q0l ((p.drop k).map Q6b)=Q0l (p.map Q6b) /\ Ext w wr) (fun i _=>n - (intOf i).toNat)
   case atStart=>exact ⟨0,Nat.zero_le _,rfl,rfl,HXW.out⟩
   case round =>
    obtain ⟨k,hk,rfl,hfe,hx0⟩:=hrel
    by_cases hlt:k < n
    . have hkI:(k:Int) < n:=by omega
      obtain ⟨b,off,x,rfl,hb,e0,e1,hi⟩:=HC.out k hlt;replace e0:=hx0.cell e0;replace e1:=hx0.cell e1;obtain ⟨X,capx,rfl,-,-,-⟩:=hi.opened;have hcl:(Q0n p k).length <= 4096:=by
       unfold Q0n; rw [Q0t _ (by rw [HN.out]; exact hlt)]; exact HR.out _ (List.getElem_mem _)
      have hdr':=Y8v (p:=p) (k:=k) (by rw [HN.out]; exact hlt)
      have hre:=Z4j (p.getD k default);change Y8i p k=Q0l [Q0v (decide ((Q0n p k).length=0)) 12,Q0v (decide (6 < (Q0n p k).length)) 5,Q0l ((Q0n p k).map fun x=>Q0h x 0 9)] at hre;rw [hfe] at hdr';have HI:=hid (hi.ext hx0);have HX0:=hid hx0;obtain ⟨cs,hcs⟩:∃ c,Q0n p k=c:=⟨_,rfl⟩;obtain ⟨cb,hcb⟩:∃ c,Q3v p k=c:=⟨_,rfl⟩;obtain ⟨re,hree⟩:∃ c,Y8i p k=c:=⟨_,rfl⟩;obtain ⟨fe,hfee⟩:∃ c,Q0l (p.map Q6b)=c:=⟨_,rfl⟩;rw [hcs] at e0 hcl hre HI;rw [hcb] at e1;rw [hree] at hre hdr';rw [hfee] at hdr';have HFE:=hid hfee;have HRE:=hid hre;have HDR:=hid hdr';clear hfe hcs hcb hree hi hre hdr' hx0;obtain ⟨wq,rfl⟩:∃ X,X=wr:=⟨_,rfl⟩;go_wp2_with fail;obtain ⟨W,hWW,k0,HXW,eW⟩:=Q1u wq 167 #[.slice X cs.length capx,.bool cb];rw [hWW];clear hWW;obtain ⟨gr,hgr⟩:∃ x,wq.heap.size=x:=⟨_,rfl⟩;rw [hgr] at k0 ⊢;obtain ⟨w3,rfl⟩:∃ x,x=W:=⟨_,rfl⟩;have hx3:Ext wq w3:=HXW.out;have HB3:=hid k0;have HI3:=hid (HI.out.ext hx3);have HX3:=hid (HX0.out.trans hx3);have hdr:=(Ext.refl w3).drew;obtain ⟨L,hL⟩:∃ L,cs.length=L:=⟨_,rfl⟩;have hcl':=HI3.out;rw [hL] at hcl';have HI4:=hid hcl';obtain ⟨fe9,hfe9⟩:∃ x,Q0l (cs.map fun x=>Q0h x 0 9)=x:=⟨_,rfl⟩
      obtain ⟨z0,hz0⟩:∃ x,decide (cs.length=0)=x:=⟨_,rfl⟩;obtain ⟨z6,hz6⟩:∃ x,decide (6 < cs.length)=x:=⟨_,rfl⟩;have hre:=HRE.out;rw [hz0,hz6,hfe9] at hre;have HCI:Hid (((L:Int) == 0)=z0):=hid (by rw [<- hz0,hL]; cases L <;> simp; omega)
      have HCJ:Hid (decide ((6:Int) < L)=z6):=hid (by rw [<- hz6,hL]; simp; omega)
      have HF9:=hid hfe9;rw [hL] at HB3 ⊢;have HFR:=hid (fun (W:World) (u:Value) (h:Q0e W u [Q0v z0 12,Q0v z6 5,fe9])=>first_any W u _ h);rw [<- hre] at HFR;clear k0 hx3 hgr e0 e1 HXW hL hcl' hfe9 hz0 hz6 hre;refine Flow.Q1d [.p,.w,.p,.p,.w,.p,.w,.p,.p,.w,.p,.w,.w,.w,.w,.w,.p] [0,1,2,3,4,5,6,7,8,9,10,11,12,13,14,15,16] [[],[0],[1],[2],[3],[],[5],[6],[7],[4,8],[],[10],[9,11],[12],[4,9,13],[13,14],[0,1,2,3,4,5,6,7,8,9,10,11,12,13,14,15]]
       [.c 0 (.pointer (some ⟨gr,0,none⟩)),.c 1 (.slice X L capx),.c 2 (.int .i64 ((L:Nat):Int)),.c 3 (.bool (z0)),.c 4 (.int .i64 (Q0v (z0) 12)),.c 5 (.pointer (some ⟨gr,0,none⟩)),.c 6 (.slice X L capx),.c 7 (.int .i64 ((L:Nat):Int)),.c 8 (.bool (z6)),.c 9 (.int .i64 (Q0v (z6) 5)),.c 10 (.pointer (some ⟨gr,0,none⟩)),.c 11 (.slice X L capx),⟨fun v wz=>(fun v w'=>Q0e w' (v 12) (cs.map fun x=>Q0h x 0 9)) v wz,by intro v a b hx h; exact Q0e.ext h hx⟩,.c 13 (.int .i64 (fe9)),⟨fun v wz=>(fun v w'=>Q0e w' (v 14) [Q0v (z0) 12,Q0v (z6) 5,fe9]) v wz,by intro v a b hx h; exact Q0e.ext h hx⟩,.c 15 (.int .i64 re),.c 16 (.int .i64 re)]
       (by kernel_rfl) rfl (by kernel_rfl) ⟨?g0,?g1,?g2,?g3,?g4,?g5,?g6,?g7,?g8,?g9,?g10,?g11,?g12,?g13,?g14,?g15,?g16,trivial⟩ ?post
      case g0 | g5 | g10=>
       intro v w1 hx;intro bb hbb;subst hbb;refine ⟨_,fun w=>?_,rfl⟩;go_simp
      case g1 | g6 | g11=>
       intro v w1 hx;(repeat intro (zq:v _=_));intro bb hbb;subst hbb;have n0:w1.cell? ⟨gr,0,none⟩=some (.slice X L capx):=(HB3.out.ext (hdr.trans hx)).cell 0;intro K hK;go_simp;exact hK _ _ (Ext.refl _) rfl
      case g2 | g7=>
       intro v w1 hx;(repeat intro (zq:v _=_));intro bb hbb;subst hbb;refine ⟨_,fun w=>?_,rfl⟩;go_simp
      case g3=>
       intro v w1 hx;(repeat intro (zq:v _=_));intro bb hbb;subst hbb;refine ⟨.bool z0,fun w=>?_,rfl⟩;go_simp;exact HCI.out
      case g4=>
       intro v w1 hx;(repeat intro (zq:v _=_));intro bb hbb;subst hbb;intro K hK;go_simp;refine Q0d (Q3y w1 (z0) 12) ?_;rintro e w2 ⟨rfl,rfl⟩;exact ⟨_,rfl,hK _ _ (Ext.refl _) rfl⟩
      case g8=>
       intro v w1 hx;(repeat intro (zq:v _=_));intro bb hbb;subst hbb;refine ⟨.bool z6,fun w=>?_,rfl⟩;go_simp;exact HCJ.out
      case g9=>
       intro v w1 hx;(repeat intro (zq:v _=_));intro bb hbb;subst hbb;intro K hK;go_simp;refine Q0d (Q3y w1 (z6) 5) ?_;rintro e w2 ⟨rfl,rfl⟩;exact ⟨_,rfl,hK _ _ (Ext.refl _) rfl⟩
      case g12=>
       intro v w1 hx;(repeat intro (zq:v _=_));intro bb hbb;subst hbb;intro K hK;go_simp;refine Q0d (Q9u w1 _ cs (HI4.out.ext (hdr.trans hx)) hcl) ?_;rintro e w2 ⟨x,rfl,h1,hx2⟩;exact ⟨_,rfl,hK _ _ hx2 h1⟩
      case g13=>
       intro v w1 hx (q12:(fun v w'=>Q0e w' (v 12) (cs.map fun x=>Q0h x 0 9)) v w1);intro bb hbb;subst hbb;intro K hK;go_simp;refine Q0d ((HF9.out ▸ first_any w1 _ _ q12)) ?_;rintro e w2 ⟨rfl,rfl⟩;exact ⟨_,rfl,hK _ _ (Ext.refl _) rfl⟩
      case g14=>
       intro v w1 hx;(repeat intro (zq:v _=_));intro bb hbb;subst hbb;intro K hK;go_simp;exact hK _ _ (Ext.box _ _) (Q2i (l:=[Q0v (z0) 12,Q0v (z6) 5,fe9]) (by simp))
      case g15=>
       intro v w1 hx (q13:v 13=_) (q14:(fun v w'=>Q0e w' (v 14) [Q0v (z0) 12,Q0v (z6) 5,fe9]) v w1);intro bb hbb;subst hbb;intro K hK;go_simp;refine Q0d (HFR.out w1 _ q14) ?_;rintro e w2 ⟨rfl,rfl⟩;exact ⟨_,rfl,hK _ _ (Ext.refl _) rfl⟩
      case g16=>
       intro v w1 hx (q0:v 0=_) (q1:v 1=_) (q2:v 2=_) (q3:v 3=_) (q4:v 4=_) (q5:v 5=_) (q6:v 6=_) (q7:v 7=_) (q8:v 8=_) (q9:v 9=_) (q10:v 10=_) (q11:v 11=_) _ (q13:v 13=_) _ (q15:v 15=_);intro bb hbb;subst hbb;refine ⟨_,fun w=>?_,rfl⟩;go_simp
      case post =>
       intro v w1 hx;(iterate 12 intro (zq:v _=_));intro (q12:(fun v w'=>Q0e w' (v 12) (cs.map fun x=>Q0h x 0 9)) v w1);(iterate 1 intro (zq:v _=_));intro (q14:(fun v w'=>Q0e w' (v 14) [Q0v (z0) 12,Q0v (z6) 5,fe9]) v w1);(iterate 2 intro (zq:v _=_));simp only [Flow.All,Flow.acts,Act.put];go_simp;have HX6:=hid (HX3.out.trans (hdr.trans hx));clear hx hdr q12 q14;(repeat clear zq)
       by_cases hr0:re=0
       . have hrb:(re != 0)=false:=by simp [hr0]
         have hd:=HDR.out;rw [if_pos hr0] at hd;clear hr0;go_wp2;go_roundw
         case rel=>exact ⟨k + 1,by omega,by go_num,by rw [<- hd]; exact HFE.out.symm,HX6.out⟩
         case measure=>simp [intOf]; omega
       . have hrb:(re != 0)=true:=by simp [hr0]
         have hd:=HDR.out;rw [if_neg hr0] at hd;have HD:=hid hd;clear hr0 hd;go_wp2;go_ret;exact ⟨by rw [<- HFE.out.symm,HD.out]; rfl,HX6.out⟩
    . have hkI:¬ (k:Int) < n:=by omega
      have hkn:k=n:=by omega
      have hz:Q0l (p.map Q6b)=0:=by rw [<- hfe,hkn,List.drop_eq_nil_of_le (by rw [HN.out]; omega)]; rfl
      have HZ:=hid hz;clear hfe hz;go_wp2;go_ret;exact ⟨by rw [HZ.out]; rfl,hx0⟩
end Go.Proofs
namespace Go.Proofs
open Go.RowKit Go.Tw Go.Flow
attribute [local go_sem] Oper.semAt_some
def Words (w:World):Prop:=w.cell? ⟨0,0,none⟩=some (.string ⟨#[111,112,101,110]⟩) /\ w.cell? ⟨0,1,none⟩=some (.string ⟨#[99,108,111,115,101]⟩)
theorem Words.ext {w w':World} (h:Words w) (hx:Ext w w'):Words w':=⟨hx.cell h.1,hx.cell h.2⟩
def X3y (c:Bool):ByteArray:=⟨(J4o c).toArray⟩
def Z6y (l:List Int) (c:Bool):ByteArray:=X7u (l.map Q4r ++ [X3y c]) spS ++ nlS
theorem Y8j (c:UInt8):∀ l:List (List UInt8),Lib.join l [c]=glue c l
 | []=>rfl
 | [x]=>Lib.join_one x [c]
 | x :: y :: r=>by
   have ih:=Y8j c (y :: r);rw [Lib.join_cons] at ih ⊢;show x ++ (([c] ++ y) ++ Lib.joinTail [c] r)=x ++ c :: glue c (y :: r);rw [<- ih];simp
theorem J1k {x:Int} (h0:0 <= x) (h9:x <= 9):(Q4r x).data.toList=[J6i x]:=by
 obtain ⟨n,rfl⟩:∃ n:Nat,x=n:=⟨x.toNat,by omega⟩
 have hn:n < 10:=by omega
 have key:∀ n:Nat,n < 10 -> (Q4r (n:Int)).data.toList=[J6i (n:Int)]:=by
  intro n hn;show (Lib.decDigits ((n:Int).toNat)).toArray.toList=_;rw [List.toList_toArray,Int.toNat_natCast,Lib.decDigits];simp [hn,J6i]
 exact key n hn
theorem line_text {r:Rul} (hd:∀ x ∈ r.classes,0 <= x /\ x <= 9):(Z6y r.classes r.close).data.toList=X0t r ++ [10]:=by
 have e:(X7u (r.classes.map Q4r ++ [X3y r.close]) spS).data.toList=X0t r:=by
  show (Lib.join ((r.classes.map Q4r ++ [X3y r.close]).map (·.data.toList)) [32]).toArray.toList=_;rw [List.toList_toArray,Y8j];unfold X0t Y8s
  congr 1
  rw [List.map_append,List.map_map]
  congr 1
  exact List.map_congr_left fun x hx=>J1k (hd x hx).1 (hd x hx).2
 unfold Z6y;rw [ByteArray.data_append,Array.toList_append,e];rfl
def Q8v (p:List Rul) (k:Nat):List UInt8:=textOf ((p.take k).map X0t)
theorem Z0k {p:List Rul} {k:Nat} (hk:k < p.length):Q8v p (k + 1)=Q8v p k ++ (X0t (p.getD k default) ++ [10]):=by
 unfold Q8v textOf;rw [List.take_succ_eq_append_getElem hk,Q0t _ hk,List.map_append,List.map_append,List.flatten_append];simp only [List.map_cons,List.map_nil,List.flatten_cons,List.flatten_nil,List.append_nil]
theorem Z4o (p:List Rul):Q8v p p.length=Y4g p:=by unfold Q8v Y4g; rw [List.take_length]
structure J7e (r:Rul):Prop where
 len:r.classes.length <= 6
 dig:∀ x ∈ r.classes,0 <= x /\ x <= 9
theorem Q5k {l:List Int} {m:Int} (h:Q0s l m=0):∀ x ∈ l,0 <= x /\ x <= m:=by
 unfold Q0s at h
 induction l with
 | nil=>intro x hx; cases hx
 | cons y l ih =>
   rw [List.map_cons,Q0y] at h
   by_cases hy:Q0h y 0 m=0
   . rw [if_pos hy] at h
     intro x hx
     rcases List.mem_cons.1 hx with rfl | hx
     . unfold Q0h at hy
       by_cases hc:x < 0 ∨ m < x
       . rw [if_pos hc] at hy; cases hy
       . omega
     . exact ih h x hx
   . rw [if_neg hy] at h; exact absurd h hy
theorem Y9g {l:List Int} (h:Q0l l=0):∀ x ∈ l,x=0:=by
 induction l with
 | nil=>intro x hx; cases hx
 | cons y l ih =>
   rw [Q0y] at h
   by_cases hy:y=0
   . rw [if_pos hy] at h
     intro x hx
     rcases List.mem_cons.1 hx with rfl | hx
     . exact hy
     . exact ih h x hx
   . rw [if_neg hy] at h; exact absurd h hy
theorem Y6p {p:List Rul} (h:Q7i p=0):p.length <= 48 /\ ∀ r ∈ p,J7e r:=by
 unfold Q7i at h
 by_cases h48:48 < p.length
 . rw [if_pos h48] at h; cases h
 . rw [if_neg h48] at h
   refine ⟨by omega,fun r hr=>?_⟩
   have h1:=Y9g h _ (List.mem_map_of_mem hr);unfold Q6b at h1
   by_cases h0:r.classes.length=0
   . rw [if_pos h0] at h1; cases h1
   . rw [if_neg h0] at h1
     by_cases h6:6 < r.classes.length
     . rw [if_pos h6] at h1; cases h1
     . rw [if_neg h6] at h1
       exact ⟨by omega,Q5k h1⟩
theorem Z4h {l:List Int} {c:Bool} (hl:l.length <= 6) (hd:∀ x ∈ l,0 <= x /\ x <= 9):(X7u (l.map Q4r ++ [X3y c]) spS).size <= 5000000:=by
 have h:=Z5m (xs:=l.map Q4r ++ [X3y c]) (sep:=spS) (B:=8) (by simp; omega) (fun x hx=>by
  rcases List.mem_append.1 hx with hx | hx
  . obtain ⟨y,hy,rfl⟩:=List.mem_map.1 hx
    have h1:=hd y hy;have:=X4n h1.1 (by omega:y < 100)
    omega
  . rw [List.mem_singleton.1 hx]; cases c <;> decide) (by decide)
 omega
theorem X6i {w w':World} {base n size B:Nat} {e:TypeId} {v:Value} {xs:List Value} {o:Obj} (hown:w.ownsRow base e size v n xs) (hg:(w.alloc o).grownBy w' v.ownBlock) (hb:B <= base) (hB:B <= w.heap.size):Below B w w' :=
 Below.grown ((Below.refl B w).alloc hB o) hg (by simp; omega) (fun k hk=>Nat.le_trans hb (hown.lt k hk).1)
def Z2z (p:List Rul):ByteArray:=if Q7i p=0 then J2g p else emp
theorem Z3o (w:World) (v:Value) (p:List Rul) (hv:Q0j w v p) (hr:∀ r ∈ p,r.classes.length <= 4096) (hW:Words w) :
    Calls Tryz.prog 81 #[v] w fun e w'=>e=.returned (.tuple #[.string (Z2z p),.int .i64 (Q7i p)]) /\ Ext w w':=by
 obtain ⟨i0,hi,hz0,hz1,hz2⟩:=info_parts Tryz.Y5h;obtain ⟨a,rfl,h2⟩:=hv;obtain ⟨A,cap,rfl,hl,hcap,hc⟩:=h2.opened;have H2:=hid h2;have HC:=hid hc;have HR:=hid hr;have HW:=hid hW;clear h2 hc hr hW;obtain ⟨n,hn⟩:∃ n,p.length=n:=⟨_,rfl⟩;have HN:=hid hn;rw [hn] at hl HC H2 ⊢;go_enter Tryz.func81,Tryz.ntmps81;go_wp2_with fail;change Calls _ _ _ (w.alloc (.cells #[.slice A n cap] 38)) _;obtain ⟨W,hWW,k0,HXW,eW⟩:=Q1u w 38 #[.slice A n cap];rw [hWW];clear hWW;have K0:=hid k0;refine (Y1e W _ p ⟨_,rfl,H2.out.ext HXW.out⟩ HR.out).mono ?_;rintro e w5 ⟨rfl,hx5⟩;have HX5:=hid (HXW.out.trans hx5);have hk5:=k0.ext hx5;obtain ⟨gp,hgp⟩:∃ z,w.heap.size=z:=⟨_,rfl⟩;rw [hgp] at hk5 ⊢;clear k0 hx5 hgp eW
 by_cases he:Q7i p=0
 . have hfin:=Y6p he
   have HF:=hid hfin.2;have hn48:n <= 48:=by have:=hfin.1; omega
   have HPE:Hid (Z2z p=J2g p):=hid (if_pos he);have HE:=hid he;obtain ⟨E,hE⟩:∃ E,Q7i p=E:=⟨_,rfl⟩;have hne:(E != 0)=false:=by rw [<- hE]; simp [he]
   rw [hE];have c5:(w5.alloc (.cells #[.pointer none,.slice none 0 0] 214)).cell? ⟨gp,0,none⟩=some (.slice A n cap):=(hk5.ext (Ext.box w5 _)).cell 0;have HEE:=hid hE;clear hk5 he hfin hE hn;go_wp2;have hbf:=Bld.fresh w5;have hxf:=Ext.box w5 (.cells #[.pointer none,.slice none 0 0] 214);obtain ⟨gb,hgb⟩:∃ z,w5.heap.size=z:=⟨_,rfl⟩;have HGB:=hid hgb;have hsf:(w5.alloc (.cells #[.pointer none,.slice none 0 0] 214)).heap.size=gb + 1:=by rw [<- hgb]; simp
   rw [hgb] at hbf ⊢;obtain ⟨wf,hwf⟩:∃ z,w5.alloc (.cells #[.pointer none,.slice none 0 0] 214)=z:=⟨_,rfl⟩;rw [hwf] at hbf hxf hsf ⊢;have HBF:=hid hbf;have HXF:=hid (HX5.out.trans hxf);have HSF:=hid hsf;have HGW:Hid (w.heap.size <= gb):=hid (by have:=HX5.out.size; omega)
   clear hbf hxf hsf hwf hgb c5
   go_loopw [18] (fun i wr=>∃ k:Nat,k <= n /\ i=.int .i64 k /\ Bld wr gb (Q8v p k) /\ Below gb wf wr /\ (Q8v p k).length <= k * 6000000) (fun i _=>n - (intOf i).toNat)
   case atStart=>exact ⟨0,Nat.zero_le _,rfl,HBF.out,Below.refl _ _,by simp [Q8v,textOf]⟩
   case round =>
    obtain ⟨k,hk,rfl,hbl,hlow,hlen⟩:=hrel
    by_cases hlt:k < n
    . have hkI:(k:Int) < n:=by omega
      have hxr:Ext w wr:=Below.trans HXF.out (hlow.mono HGW.out);obtain ⟨b,off,x,rfl,hb,e0,e1,hi0⟩:=HC.out k hlt;replace e0:=hxr.cell e0;replace e1:=hxr.cell e1;have hkp:k < p.length:=by rw [HN.out]; exact hlt
      have hfr:=HF.out (p.getD k default) (by rw [Q0t _ hkp]; exact List.getElem_mem hkp)
      have hts:=Z0k hkp;have hlt9:=line_text hfr.dig;obtain ⟨X,capx,rfl,-,-,-⟩:=hi0.opened;have HI:=hid (hi0.ext hxr);have HXR:=hid hxr;have HBL:=hid hbl;have HLOW:=hid hlow;have hwd:=HW.out.ext hxr;have hcl6:(Q0n p k).length <= 6:=hfr.len;have HDG:Hid (∀ x ∈ Q0n p k,0 <= x /\ x <= 9):=hid hfr.dig;have hlsz:=Z4h (c:=Q3v p k) hcl6 HDG.out;rw [<- hlt9] at hts;change Q8v p (k + 1)=Q8v p k ++ (Z6y (Q0n p k) (Q3v p k)).data.toList at hts;obtain ⟨cs,hcs⟩:∃ c,Q0n p k=c:=⟨_,rfl⟩;obtain ⟨cb,hcb⟩:∃ c,Q3v p k=c:=⟨_,rfl⟩;obtain ⟨tx,htx⟩:∃ c,Q8v p k=c:=⟨_,rfl⟩;rw [hcs] at e0 HI hcl6 HDG hlsz hts;rw [hcb] at e1 hlsz hts;rw [htx] at HBL hts hlen;have HTS:=hid hts;have HLSZ:=hid hlsz;obtain ⟨L,hL⟩:∃ L,cs.length=L:=⟨_,rfl⟩;have HLL:=hid hL;rw [hL] at e0 HI hcl6;clear hbl hlow hxr hi0 hfr hlt9 hcs hcb htx hts hlsz hL;obtain ⟨wq,rfl⟩:∃ X,X=wr:=⟨_,rfl⟩;cases cb with
      | false =>
        have hwx:=hwd.ext (Ext.box wq (.cells #[.slice X L capx,.bool false] 167));have w0:=hwx.1;have w9:=hwx.2;clear hwx;go_wp2_with fail;obtain ⟨W,hWW,k0,HXW,eW⟩:=Q1u wq 167 #[.slice X L capx,.bool false];rw [hWW];clear hWW;clear k0;refine (X7z W _ cs (HLL.out ▸ HI.out.ext HXW.out) (by rw [HLL.out]; omega) (fun x hx=>by have:=HDG.out x hx; omega)).mono ?_
        rintro e w3 ⟨u,rfl,hu,hx3⟩;have HX3:=hid (HXW.out.trans hx3);have HWW:=hid HXW.out.size;have hlm:(cs.map Q4r).length <= 6:=by rw [List.length_map,HLL.out]; exact hcl6
        have hb3:W.heap.size <= w3.heap.size:=hx3.size;clear w0 w9 e0 e1;go_wp2_with ((at_builtin; refine wpList_append_own _ rfl _ _ 157 rfl (W.heap.size) 9 i0 (.string emp) 1 16 Tryz.underlying157 hi hz0 hz1 hz2 rfl (by decide) _ _ _ rfl (World.ownsRow.alloc hu _) ⟨w3.heap.size,0,none⟩ 1 1 [.string ⟨#[111,112,101,110]⟩] rfl rfl ?_ ?_ ?_ ?_ ?_ ?_; exact Q3i _ _ _; (focus (simp [Value.oneCell'])); (focus (unfold maxLen; omega)); (focus omega); (focus (have:=hx3.size; simp at this ⊢; omega)); intro v' w1 hown' hgrow _); refine halted ?_)
        have hx4:Ext wq w1:=Below.trans HX3.out (X6i hu hgrow (Nat.le_trans HWW.out (Nat.le_refl _)) (Nat.le_trans HWW.out hb3));have hown4:Q0m w1 W.heap.size 9 .string v' (cs.map Q4r ++ [X3y false]):=Q0m.snoc hown';have hsz:∀ x ∈ cs.map Q4r ++ [X3y false],x.size <= 5000000:=by
         intro x hx
         rcases List.mem_append.1 hx with hx | hx
         . obtain ⟨y,hy,rfl⟩:=List.mem_map.1 hx
           have h1:=HDG.out y hy;have:=X4n h1.1 (by omega:y < 100)
           omega
         . rw [List.mem_singleton.1 hx]; decide
        have HJ:=hid (Z2t w1 W.heap.size v' _ spS hown4 (by have:=HLL.out; rw [List.length_append,List.length_map]; show cs.length + 1 <= _; omega) (by simp) hsz (by decide))
        have HX4:=hid hx4;have HLB:Hid (Z6y cs false=X7u (cs.map Q4r ++ [X3y false]) spS ++ nlS):=hid rfl;have hls:=HLSZ.out;obtain ⟨js,hjs⟩:∃ j,X7u (cs.map Q4r ++ [X3y false]) spS=j:=⟨_,rfl⟩;rw [hjs] at HJ HLB hls;have HJ':Hid (Calls Tryz.prog 149 #[v',.string ⟨#[32]⟩] w1 fun e w'=>e=.returned (.string js) /\ Ext w1 w'):=hid HJ.out;have hj2:¬ 9223372036854775807 < js.size + 1:=by omega
        have hj3:js.size + 1 <= 9223372036854775807:=by omega
        have hj4:js.size < 9223372036854775807:=by omega
        clear hown' hgrow hx4 hown4 hsz HJ hjs hu hx3 hb3 hlm;unfold Q1j;go_wp2_with (go_at_call 149; refine HJ'.out.mono ?_; rintro e w6 ⟨rfl,hx6⟩; refine halted ?_);have HX6:=hid (HX4.out.trans hx6);have HWS:=hid (write_any w6 gb tx (js ++ nlS) (HBL.out.ext HX6.out) (by rw [ByteArray.size_append]; have:nlS.size=1:=rfl; omega))
        have HWS':Hid (Calls Tryz.prog 148 #[.pointer (some ⟨gb,0,none⟩),.string (js ++ ⟨#[10]⟩)] w6 fun e w'=>e=.returned (.tuple #[.int .i64 ((js ++ nlS).size),.nilIface]) /\ Bld w' gb (tx ++ (js ++ nlS).data.toList) /\ Below gb w6 w'):=hid HWS.out;clear hx6 HWS;unfold Q1j;go_wp2_with (go_at_call 148; refine HWS'.out.mono ?_; rintro e w7 ⟨rfl,hb7,hx7⟩);go_roundw
        case rel=>exact ⟨k + 1,by omega,by go_num,by rw [HTS.out,HLB.out]; exact hb7,Below.trans HLOW.out (Below.trans (HX6.out.mono (by have:=HBL.out.lt; omega)) hx7),by rw [HTS.out,HLB.out,List.length_append,Array.length_toList]; show tx.length + (js ++ nlS).size <= _; rw [ByteArray.size_append]; have:nlS.size=1:=rfl; omega⟩
        case measure=>simp [intOf]; omega
      | true =>
        have hwx:=hwd.ext (Ext.box wq (.cells #[.slice X L capx,.bool true] 167));have w0:=hwx.1;have w9:=hwx.2;clear hwx;go_wp2_with fail;obtain ⟨W,hWW,k0,HXW,eW⟩:=Q1u wq 167 #[.slice X L capx,.bool true];rw [hWW];clear hWW;clear k0;refine (X7z W _ cs (HLL.out ▸ HI.out.ext HXW.out) (by rw [HLL.out]; omega) (fun x hx=>by have:=HDG.out x hx; omega)).mono ?_
        rintro e w3 ⟨u,rfl,hu,hx3⟩;have HX3:=hid (HXW.out.trans hx3);have HWW:=hid HXW.out.size;have hlm:(cs.map Q4r).length <= 6:=by rw [List.length_map,HLL.out]; exact hcl6
        have hb3:W.heap.size <= w3.heap.size:=hx3.size;clear w0 w9 e0 e1;go_wp2_with ((at_builtin; refine wpList_append_own _ rfl _ _ 157 rfl (W.heap.size) 9 i0 (.string emp) 1 16 Tryz.underlying157 hi hz0 hz1 hz2 rfl (by decide) _ _ _ rfl (World.ownsRow.alloc hu _) ⟨w3.heap.size,0,none⟩ 1 1 [.string ⟨#[99,108,111,115,101]⟩] rfl rfl ?_ ?_ ?_ ?_ ?_ ?_; exact Q3i _ _ _; (focus (simp [Value.oneCell'])); (focus (unfold maxLen; omega)); (focus omega); (focus (have:=hx3.size; simp at this ⊢; omega)); intro v' w1 hown' hgrow _); refine halted ?_)
        have hx4:Ext wq w1:=Below.trans HX3.out (X6i hu hgrow (Nat.le_trans HWW.out (Nat.le_refl _)) (Nat.le_trans HWW.out hb3));have hown4:Q0m w1 W.heap.size 9 .string v' (cs.map Q4r ++ [X3y true]):=Q0m.snoc hown';have hsz:∀ x ∈ cs.map Q4r ++ [X3y true],x.size <= 5000000:=by
         intro x hx
         rcases List.mem_append.1 hx with hx | hx
         . obtain ⟨y,hy,rfl⟩:=List.mem_map.1 hx
           have h1:=HDG.out y hy;have:=X4n h1.1 (by omega:y < 100)
           omega
         . rw [List.mem_singleton.1 hx]; decide
        have HJ:=hid (Z2t w1 W.heap.size v' _ spS hown4 (by have:=HLL.out; rw [List.length_append,List.length_map]; show cs.length + 1 <= _; omega) (by simp) hsz (by decide))
        have HX4:=hid hx4;have HLB:Hid (Z6y cs true=X7u (cs.map Q4r ++ [X3y true]) spS ++ nlS):=hid rfl;have hls:=HLSZ.out;obtain ⟨js,hjs⟩:∃ j,X7u (cs.map Q4r ++ [X3y true]) spS=j:=⟨_,rfl⟩;rw [hjs] at HJ HLB hls;have HJ':Hid (Calls Tryz.prog 149 #[v',.string ⟨#[32]⟩] w1 fun e w'=>e=.returned (.string js) /\ Ext w1 w'):=hid HJ.out;have hj2:¬ 9223372036854775807 < js.size + 1:=by omega
        have hj3:js.size + 1 <= 9223372036854775807:=by omega
        have hj4:js.size < 9223372036854775807:=by omega
        clear hown' hgrow hx4 hown4 hsz HJ hjs hu hx3 hb3 hlm;unfold Q1j;go_wp2_with (go_at_call 149; refine HJ'.out.mono ?_; rintro e w6 ⟨rfl,hx6⟩; refine halted ?_);have HX6:=hid (HX4.out.trans hx6);have HWS:=hid (write_any w6 gb tx (js ++ nlS) (HBL.out.ext HX6.out) (by rw [ByteArray.size_append]; have:nlS.size=1:=rfl; omega))
        have HWS':Hid (Calls Tryz.prog 148 #[.pointer (some ⟨gb,0,none⟩),.string (js ++ ⟨#[10]⟩)] w6 fun e w'=>e=.returned (.tuple #[.int .i64 ((js ++ nlS).size),.nilIface]) /\ Bld w' gb (tx ++ (js ++ nlS).data.toList) /\ Below gb w6 w'):=hid HWS.out;clear hx6 HWS;unfold Q1j;go_wp2_with (go_at_call 148; refine HWS'.out.mono ?_; rintro e w7 ⟨rfl,hb7,hx7⟩);go_roundw
        case rel=>exact ⟨k + 1,by omega,by go_num,by rw [HTS.out,HLB.out]; exact hb7,Below.trans HLOW.out (Below.trans (HX6.out.mono (by have:=HBL.out.lt; omega)) hx7),by rw [HTS.out,HLB.out,List.length_append,Array.length_toList]; show tx.length + (js ++ nlS).size <= _; rw [ByteArray.size_append]; have:nlS.size=1:=rfl; omega⟩
        case measure=>simp [intOf]; omega
    . have hkI:¬ (k:Int) < n:=by omega
      have hkn:k=n:=by omega
      subst hkn;have hta:Q8v p k=Y4g p:=by rw [<- HN.out]; exact Z4o p
      rw [hta] at hbl;have HBS:=hid (Y9x wr gb _ hbl);have HXR:Hid (Ext w wr):=hid (Below.trans HXF.out (hlow.mono HGW.out));clear hbl hlow hta hlen;go_wp2_with (go_at_call 150; refine HBS.out.mono ?_; rintro e w7 ⟨rfl,hx7⟩);refine bodyPost_ret (results_tmp2 Tryz.results81 _ _ _) rfl ?_;exact ⟨by rw [HPE.out,<- HEE.out,HE.out]; rfl,Below.trans HXR.out (hx7.mono HGW.out)⟩
 . have hne:(Q7i p != 0)=true:=by simp [he]
   have HPE:Hid (Z2z p=emp):=hid (if_neg he);clear he hk5;go_wp2;refine bodyPost_ret (results_tmp2 Tryz.results81 _ _ _) rfl ?_;exact ⟨by rw [HPE.out]; rfl,HX5.out⟩
end Go.Proofs
namespace Go.Proofs.YthnobngcipaljaaGreatDoor
open Go.ChangeShapes Go.WideShapes Go.ChangeAt Go.RowKit Go.Tw
theorem own:ownKnob Tryz.prog.godebug=none:=by kernel_rfl
theorem laidOut:laidOutB Tryz.prog=true:=by kernel_rfl
def Z4f:List (String × DataW Unit):=Rows.policyFollowsRow.laid
theorem Y3m {W:World} (h:laidMetH Tryz.prog Z4f W):Words W:=by
 rw [MakeChecks.laidMetH_plain _ _ _ (by kernel_rfl)] at h
 obtain ⟨ps,⟨g0,t0,cs0,f0,p0,q0,hg0,ht0,hv0,hd0,⟨g1,t1,cs1,f1,p1,q1,hg1,ht1,hv1,hd1,⟨g2,t2,cs2,f2,p2,q2,hg2,ht2,hv2,hd2,⟨g3,t3,cs3,f3,p3,q3,hg3,ht3,hv3,hd3,_⟩,_⟩,_⟩,_⟩,_,_⟩:=h;obtain rfl:=Option.some.inj ((show Tryz.prog.globalNamed (Z4f[3]?.map (·.1)).get! = some 0 by kernel_rfl).symm.trans hg3)
 obtain ⟨t,ht⟩:∃ t,(Tryz.prog.globals[0]?).map (·.type)=some t:=⟨_,ht3⟩;obtain rfl:=Option.some.inj (ht.symm.trans ht3);have hty:(Tryz.prog.globals[0]?).map (·.type)=some 215:=by kernel_rfl
 obtain rfl:=Option.some.inj (hty.symm.trans ht);obtain ⟨xs,m,_,hx,hlen,hxl,hel⟩:=DataW.trod_array Tryz.underlying215 hd3;rw [Tryz.cS] at hel;have hm:xs.map (·.1)=[.lit (.string [111,112,101,110]),.lit (.string [99,108,111,115,101])]:=by
  have:=congrArg Prod.fst hx;simp only [Rows.laid_tideway_policy_words] at this;injection this with this;exact this.symm
 obtain ⟨x0,x1,rfl⟩:∃ a b,xs=[a,b]:=by
  match xs,hxl with
  | [a,b],_=>exact ⟨a,b,rfl⟩
 simp only [List.map_cons,List.map_nil,List.cons.injEq,and_true] at hm;obtain ⟨hx0,hx1⟩:=hm;obtain ⟨s0,hc0,rfl,_⟩:=DataW.trod_string Tryz.underlying9 (hel 0 (by decide))
 obtain ⟨s1,hc1,rfl,_⟩:=DataW.trod_string Tryz.underlying9 (hel 1 (by decide))
 have e0:s0=⟨#[111,112,101,110]⟩:=by
  simp only [DataW.lit.injEq,Lit.string.injEq] at hx0;obtain ⟨d⟩:=s0;obtain ⟨l⟩:=d;have h:l=[111,112,101,110]:=hx0;rw [h]
 have e1:s1=⟨#[99,108,111,115,101]⟩:=by
  simp only [DataW.lit.injEq,Lit.string.injEq] at hx1;obtain ⟨d⟩:=s1;obtain ⟨l⟩:=d;have h:l=[99,108,111,115,101]:=hx1;rw [h]
 subst e0 e1;obtain ⟨l3⟩:=cs3;have hl2:l3.length=2:=by
  have h:=hlen;rw [show Tryz.prog.cellsOf 215=2 from by kernel_rfl] at h
  exact h
 obtain ⟨c0,c1,rfl⟩:∃ a b,l3=[a,b]:=by
  match l3,hl2 with
  | [a,b],_=>exact ⟨a,b,rfl⟩
 simp at hc0 hc1;subst hc0 hc1;exact ⟨by rw [World.var?_cell hg3 hv3 0]; rfl,by rw [World.var?_cell hg3 hv3 1]; rfl⟩
end Go.Proofs.YthnobngcipaljaaGreatDoor
namespace Go.Proofs.YthnobngcipaljaaGreatDoor
open Go.ChangeShapes Go.WideShapes Go.ChangeAt Go.RowKit Go.Tw
theorem X1t {a b:Bool} (h:a=true) (k:b=true):(a && b)=true:=by rw [h,k]; rfl
theorem J7l {a b:Bool} (h:(a && b)=true):a=true:=by cases a <;> simp_all
theorem J6y {a b:Bool} (h:(a && b)=true):b=true:=by cases a <;> simp_all
theorem Z6g (P:Program) (f:FuncId) (fn:Func) (s:ChangeSpec) (c:OpenClaim)
    (k0:(c.wf (OpenSpec.ofChange s):Bool)=true)
    (k1:(laidOutB P:Bool)=true)
    (k2:(mapsRowed P:Bool)=true)
    (k3:(fn.params.all (P.readableRec ·):Bool)=true)
    (k4:(namedTie P c.named s.vars:Bool)=true)
    (k5:((c.stops == []):Bool)=true)
    (k6:((P.stops == []):Bool)=true)
    (k7:((c.knobs == []):Bool)=true)
    (k8:((P.stopKnobs == []):Bool)=true)
    (k9:((c.inPlace == P.inPlace f):Bool)=true)
    (k10:((c.unfollowed == P.unfollowed f):Bool)=true)
    (k11:((c.recurses == P.recurses f):Bool)=true)
    (k12:((c.named == P.varsNamed f):Bool)=true)
    (k13:((c.maps == (fn.params.toList ++ s.plain.varTypes P).any (P.mapsRec ·)):Bool)=true)
    (k14:((c.ifaces == (fn.params.toList ++ s.plain.varTypes P).any (P.ifacesRec ·)):Bool)=true)
    (k15:((c.mapsOut == P.mapsAmong fn.resultTypes.toList):Bool)=true)
    (k16:((c.loops == (fn.params.toList ++ s.plain.varTypes P).any (P.loopsFrom ·)):Bool)=true)
    (k17:((c.wideKeys == (fn.params.toList ++ s.plain.varTypes P ++ fn.resultTypes.toList).any (P.wideKeysFrom ·)):Bool)=true)
    (k18:(s.vars.all (P.varReadable ·):Bool)=true)
    (k19:(fn.resultTypes.all (fun t=>P.readableRec t && decide (t < P.types.size)):Bool)=true)
    (k20:((c.ifacesOut == fn.resultTypes.toList.any (P.ifacesRec ·)):Bool)=true)
    (k21:((c.loopsOut == fn.resultTypes.toList.any (P.loopsFrom ·)):Bool)=true)
    (k22:((c.plainKeys == P.plainKeys):Bool)=true)
    (k23:(c.shortTexts.isNone:Bool)=true)
    (k24:(P.stopsHeard:Bool)=true)
    (k25:(P.mayEnter:Bool)=true)
    (k26:((c.lifted == P.liftsFinal):Bool)=true)
    (k27:((P.make == some c.make):Bool)=true)
    (k28:(c.domain.isEmpty && (c.kinds == []):Bool)=true)
    (k29:((c.pinned == c.pinnedBy):Bool)=true)
    (k30:((c.veiled == (fn.params.toList ++ s.plain.varTypes P ++ fn.resultTypes.toList).any (P.veiledRec ·)):Bool)=true)
    (k31:(c.veiledFits P fn.params.toList (fn.params.toList ++ s.plain.varTypes P ++ fn.resultTypes.toList):Bool)=true)
   :joinedFacts P f fn s c=true:=by unfold joinedFacts; exact X1t (X1t (X1t (X1t (X1t (X1t (X1t (X1t (X1t (X1t (X1t (X1t (X1t (X1t (X1t (X1t (X1t (X1t (X1t (X1t (X1t (X1t (X1t (X1t (X1t (X1t (X1t (X1t (X1t (X1t (X1t (k0) k1) k2) k3) k4) k5) k6) k7) k8) k9) k10) k11) k12) k13) k14) k15) k16) k17) k18) k19) k20) k21) k22) k23) k24) k25) k26) k27) (by rw [if_pos (J7l k28)]; exact J6y k28)) k29) k30) k31
theorem J2l:(laidOutB Tryz.prog:Bool)=true:=by kernel_rfl
theorem J4i:(mapsRowed Tryz.prog:Bool)=true:=by kernel_rfl
theorem J2t:((Tryz.prog.stops == []):Bool)=true:=by kernel_rfl
theorem J2p:((Tryz.prog.stopKnobs == []):Bool)=true:=by kernel_rfl
theorem J0i:(Tryz.prog.stopsHeard:Bool)=true:=by kernel_rfl
theorem Z9s:(Tryz.prog.mayEnter:Bool)=true:=by kernel_rfl
end Go.Proofs.YthnobngcipaljaaGreatDoor
namespace Go.Proofs
open Go.RowKit Go.Tw Go.ChangeShapes Go.WideShapes Go.Deep
section
variable {H:Type} {enc:TypeId × Value -> H} {W:World}
theorem Tryz.cPl:Tryz.prog.cellsOf 47=1:=by kernel_rfl
theorem Y0q {b0:Nat} {v:Value} {d:DataW H} {ps:List MemPlace} (hv:Value.okWide Tryz.prog W .any b0 47 v) (h:DataW.Trod enc Tryz.prog W 0 (fun _=>true) true 47 v d ps) (hw:X1d 47 d):∃ t,Q0j W v t:=by
 obtain ⟨cs,rfl,hsz⟩:=okWide_struct Tryz.underlying47 hv;rw [Tryz.cPl] at hsz;obtain ⟨c0,rfl⟩:∃ a,cs=#[a]:=by
  obtain ⟨l⟩:=cs
  match l,hsz with
  | [a],_=>exact ⟨a,rfl⟩
 obtain ⟨fuel,hf⟩:=h;obtain ⟨y0,m,hx,_,h0⟩:=trod_struct1 Tryz.underlying47 hf;simp only [Prod.mk.injEq] at hx;obtain ⟨rfl,_⟩:=hx;have hw2:∀ x ∈ DataW.weightsEach Tryz.prog [45] [y0.1],x <= 140737488351232:=fun x hx=>hw x (by simpa [DataW.weights,Tryz.underlying47] using hx)
 obtain ⟨w0,_⟩:=Q3e hw2;have e2:Tryz.prog.cellsOf 45=1:=by kernel_rfl
 have h0':DataW.trod enc Tryz.prog W 0 (fun _=>true) true m 45 [c0]=some y0:=by simpa [e2,Value.cells] using h0
 obtain ⟨b,hb⟩:=Y5g h0' w0;exact ⟨b,_,rfl,hb⟩
end
end Go.Proofs
