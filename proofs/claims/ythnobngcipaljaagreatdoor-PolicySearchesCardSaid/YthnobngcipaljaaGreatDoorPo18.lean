/- Contract: checkText (of the program). Contract: Print (of the program). What the listed tables give; small facts on the program for the rows. joinedFacts, fact by fact (in one declaration the kernel's lid of memory is too low for this program); the facts of the program alone. Contracts: weight, checkMember, checkMembers (of the program). -/
import Derived.Test.YthnobngcipaljaaGreatDoorPo13
import Derived.Test.YthnobngcipaljaaGreatDoorPo06
import Derived.Test.YthnobngcipaljaaGreatDoorPo17
import Derived.Test.YthnobngcipaljaaGreatDoorPo09
import Derived.Test.YthnobngcipaljaaGreatDoorPo01
import Derived.Test.YthnobngcipaljaaGreatDoorRows
import Derived.Test.YthnobngcipaljaaGreatDoorTie
import Derived.Test.YthnobngcipaljaaGreatDoorCards
import Derived.ProofKit
import Derived.OpenShut
import Derived.LaidMore
import Derived.Lay
import Derived.SevenTiedAt
import Derived.Stop.Joined
import Derived.Test.YthnobngcipaljaaGreatDoorPo11
import Derived.Test.YthnobngcipaljaaGreatDoorPo08
set_option maxRecDepth 1000000
set_option maxHeartbeats 64000000
set_option linter.unusedVariables false
set_option linter.unusedSimpArgs false
set_option linter.constructorNameAsVariable false
namespace Go.Proofs
open Go.RowKit Go.Tw Go.Flow
attribute [local go_sem] Oper.semAt_some
theorem Z1a (r:Rul):Q5m r = Q0j [Q0q (decide (r.classes.length = 0)) 12,Q0q (decide (6 < r.classes.length)) 5,Q0j (r.classes.map fun x=>Q0f x 0 9)]:=by
 unfold Q5m Q0q Q0p;simp only [Q0g]
 by_cases h0:r.classes.length = 0
 . simp [h0]
 . by_cases h6:6 < r.classes.length
   . simp [h0,h6]
   . obtain ⟨x,hx⟩:∃ x,Q0j (r.classes.map fun x=>Q0f x 0 9) = x:=⟨_,rfl⟩
     rw [hx]
     by_cases he:x = 0
     . simp [h0,h6,he,Q0j]
     . simp [h0,h6,he]
def Y4f (p:List Rul) (k:Nat):Int:=Q5m (p.getD k default)
theorem Y3l {p:List Rul} {k:Nat} (hk:k < p.length):Q0j ((p.drop k).map Q5m) = if Y4f p k = 0 then Q0j ((p.drop (k + 1)).map Q5m) else Y4f p k:=by
 rw [List.drop_eq_getElem_cons hk,List.map_cons,Q0g,Y4f,Q0v _ hk]
theorem X9i (w:World) (v:Value) (p:List Rul) (hv:Q1c w v p) (hr:∀ r ∈ p,r.classes.length <= 4096) :
    Calls Tryz.prog 145 #[v] w fun e w'=>e = .returned (.int .i64 (Q6t p)) /\ Ext w w':=by
 obtain ⟨a,rfl,h2⟩:=hv;obtain ⟨A,cap,rfl,hl,hcap,hc⟩:=h2.opened;have HC:=Lib.hid hc;have HR:=Lib.hid hr;clear h2 hc hr;go_enter Tryz.func145,Tryz.ntmps145;have HTE:Hid (Q6t p = if 48 < p.length then 5 else Q0j (p.map Q5m)):=Lib.hid rfl
 obtain ⟨n,hn⟩:∃ n,p.length = n:=⟨_,rfl⟩;have HN:=Lib.hid hn;rw [hn] at HTE hl HC ⊢;clear hn
 by_cases h48:48 < n
 . rw [if_pos h48] at HTE
   have hI:(48:Int) < n:=by omega
   rw [HTE.out];go_wp2;go_ret;exact ⟨rfl,Ext.box _ _⟩
 . rw [if_neg h48] at HTE
   have hI:¬ (48:Int) < n:=by omega
   rw [HTE.out];go_wp2;obtain ⟨W,hWW,k0,HXW,eW⟩:=Q1q w 38 #[.slice A n cap];rw [hWW];clear hWW;clear k0
   go_loopw [13] (fun i wr=>∃ k:Nat,k <= n /\ i = .int .i64 k /\ Q0j ((p.drop k).map Q5m) = Q0j (p.map Q5m) /\ Ext w wr) (fun i _=>n - (intOf i).toNat)
   case atStart=>exact ⟨0,Nat.zero_le _,rfl,rfl,HXW.out⟩
   case round =>
    obtain ⟨k,hk,rfl,hfe,hx0⟩:=hrel
    by_cases hlt:k < n
    . have hkI:(k:Int) < n:=by omega
      obtain ⟨b,off,x,rfl,hb,e0,e1,hi⟩:=HC.out k hlt;replace e0:=hx0.cell e0;replace e1:=hx0.cell e1;obtain ⟨X,capx,rfl,-,-,-⟩:=hi.opened;have hcl:(Q0w p k).length <= 4096:=by
       unfold Q0w; rw [Q0v _ (by rw [HN.out]; exact hlt)]; exact HR.out _ (List.getElem_mem _)
      have hdr':=Y3l (p:=p) (k:=k) (by rw [HN.out]; exact hlt)
      have hre:=Z1a (p.getD k default);change Y4f p k = Q0j [Q0q (decide ((Q0w p k).length = 0)) 12,Q0q (decide (6 < (Q0w p k).length)) 5,Q0j ((Q0w p k).map fun x=>Q0f x 0 9)] at hre;rw [hfe] at hdr';have HI:=Lib.hid (hi.ext hx0);have HX0:=Lib.hid hx0;obtain ⟨cs,hcs⟩:∃ c,Q0w p k = c:=⟨_,rfl⟩;obtain ⟨cb,hcb⟩:∃ c,Q4q p k = c:=⟨_,rfl⟩;obtain ⟨re,hree⟩:∃ c,Y4f p k = c:=⟨_,rfl⟩;obtain ⟨fe,hfee⟩:∃ c,Q0j (p.map Q5m) = c:=⟨_,rfl⟩;rw [hcs] at e0 hcl hre HI;rw [hcb] at e1;rw [hree] at hre hdr';rw [hfee] at hdr';have HFE:=Lib.hid hfee;have HRE:=Lib.hid hre;have HDR:=Lib.hid hdr';clear hfe hcs hcb hree hi hre hdr' hx0;obtain ⟨wq,rfl⟩:∃ X,X = wr:=⟨_,rfl⟩;go_wp2_with fail;obtain ⟨W,hWW,k0,HXW,eW⟩:=Q1q wq 167 #[.slice X cs.length capx,.bool cb];rw [hWW];clear hWW;obtain ⟨gr,hgr⟩:∃ x,wq.heap.size = x:=⟨_,rfl⟩;rw [hgr] at k0 ⊢;obtain ⟨w3,rfl⟩:∃ x,x = W:=⟨_,rfl⟩;have hx3:Ext wq w3:=HXW.out;have HB3:=Lib.hid k0;have HI3:=Lib.hid (HI.out.ext hx3);have HX3:=Lib.hid (HX0.out.trans hx3);have hdr:=(Ext.refl w3).drew;obtain ⟨L,hL⟩:∃ L,cs.length = L:=⟨_,rfl⟩;have hcl':=HI3.out;rw [hL] at hcl';have HI4:=Lib.hid hcl';obtain ⟨fe9,hfe9⟩:∃ x,Q0j (cs.map fun x=>Q0f x 0 9) = x:=⟨_,rfl⟩
      obtain ⟨z0,hz0⟩:∃ x,decide (cs.length = 0) = x:=⟨_,rfl⟩;obtain ⟨z6,hz6⟩:∃ x,decide (6 < cs.length) = x:=⟨_,rfl⟩;have hre:=HRE.out;rw [hz0,hz6,hfe9] at hre;have HCI:Hid (((L:Int) == 0) = z0):=Lib.hid (by rw [<- hz0,hL]; cases L <;> simp; omega)
      have HCJ:Hid (decide ((6:Int) < L) = z6):=Lib.hid (by rw [<- hz6,hL]; simp; omega)
      have HF9:=Lib.hid hfe9;rw [hL] at HB3 ⊢;have HFR:=Lib.hid (fun (W:World) (u:Value) (h:Q0d W u [Q0q z0 12,Q0q z6 5,fe9])=>first_any W u _ h);rw [<- hre] at HFR;clear k0 hx3 hgr e0 e1 HXW hL hcl' hfe9 hz0 hz6 hre;refine Flow.Q1h [.p,.w,.p,.p,.w,.p,.w,.p,.p,.w,.p,.w,.w,.w,.w,.w,.p] [0,1,2,3,4,5,6,7,8,9,10,11,12,13,14,15,16] [[],[0],[1],[2],[3],[],[5],[6],[7],[4,8],[],[10],[9,11],[12],[4,9,13],[13,14],[0,1,2,3,4,5,6,7,8,9,10,11,12,13,14,15]]
       [.c 0 (.pointer (some ⟨gr,0,none⟩)),.c 1 (.slice X L capx),.c 2 (.int .i64 ((L:Nat):Int)),.c 3 (.bool (z0)),.c 4 (.int .i64 (Q0q (z0) 12)),.c 5 (.pointer (some ⟨gr,0,none⟩)),.c 6 (.slice X L capx),.c 7 (.int .i64 ((L:Nat):Int)),.c 8 (.bool (z6)),.c 9 (.int .i64 (Q0q (z6) 5)),.c 10 (.pointer (some ⟨gr,0,none⟩)),.c 11 (.slice X L capx),⟨fun v wz=>(fun v w'=>Q0d w' (v 12) (cs.map fun x=>Q0f x 0 9)) v wz,by intro v a b hx h; exact Q0d.ext h hx⟩,.c 13 (.int .i64 (fe9)),⟨fun v wz=>(fun v w'=>Q0d w' (v 14) [Q0q (z0) 12,Q0q (z6) 5,fe9]) v wz,by intro v a b hx h; exact Q0d.ext h hx⟩,.c 15 (.int .i64 re),.c 16 (.int .i64 re)]
       (by kernel_rfl) rfl (by kernel_rfl) ⟨?g0,?g1,?g2,?g3,?g4,?g5,?g6,?g7,?g8,?g9,?g10,?g11,?g12,?g13,?g14,?g15,?g16,trivial⟩ ?post
      case g0 | g5 | g10=>
       intro v w1 hx;intro bb hbb;subst hbb;refine ⟨_,fun w=>?_,rfl⟩;go_simp
      case g1 | g6 | g11=>
       intro v w1 hx;(repeat intro (zq:v _ = _));intro bb hbb;subst hbb;have n0:w1.cell? ⟨gr,0,none⟩ = some (.slice X L capx):=(HB3.out.ext (hdr.trans hx)).cell 0;intro K hK;go_simp;exact hK _ _ (Ext.refl _) rfl
      case g2 | g7=>
       intro v w1 hx;(repeat intro (zq:v _ = _));intro bb hbb;subst hbb;refine ⟨_,fun w=>?_,rfl⟩;go_simp
      case g3=>
       intro v w1 hx;(repeat intro (zq:v _ = _));intro bb hbb;subst hbb;refine ⟨.bool z0,fun w=>?_,rfl⟩;go_simp;exact HCI.out
      case g4=>
       intro v w1 hx;(repeat intro (zq:v _ = _));intro bb hbb;subst hbb;intro K hK;go_simp;refine Q0e (Q5o w1 (z0) 12) ?_;rintro e w2 ⟨rfl,rfl⟩;exact ⟨_,rfl,hK _ _ (Ext.refl _) rfl⟩
      case g8=>
       intro v w1 hx;(repeat intro (zq:v _ = _));intro bb hbb;subst hbb;refine ⟨.bool z6,fun w=>?_,rfl⟩;go_simp;exact HCJ.out
      case g9=>
       intro v w1 hx;(repeat intro (zq:v _ = _));intro bb hbb;subst hbb;intro K hK;go_simp;refine Q0e (Q5o w1 (z6) 5) ?_;rintro e w2 ⟨rfl,rfl⟩;exact ⟨_,rfl,hK _ _ (Ext.refl _) rfl⟩
      case g12=>
       intro v w1 hx;(repeat intro (zq:v _ = _));intro bb hbb;subst hbb;intro K hK;go_simp;refine Q0e (Q8p w1 _ cs (HI4.out.ext (hdr.trans hx)) hcl) ?_;rintro e w2 ⟨x,rfl,h1,hx2⟩;exact ⟨_,rfl,hK _ _ hx2 h1⟩
      case g13=>
       intro v w1 hx (q12:(fun v w'=>Q0d w' (v 12) (cs.map fun x=>Q0f x 0 9)) v w1);intro bb hbb;subst hbb;intro K hK;go_simp;refine Q0e ((HF9.out ▸ first_any w1 _ _ q12)) ?_;rintro e w2 ⟨rfl,rfl⟩;exact ⟨_,rfl,hK _ _ (Ext.refl _) rfl⟩
      case g14=>
       intro v w1 hx;(repeat intro (zq:v _ = _));intro bb hbb;subst hbb;intro K hK;go_simp;exact hK _ _ (Ext.box _ _) (Q3i (l:=[Q0q (z0) 12,Q0q (z6) 5,fe9]) (by simp))
      case g15=>
       intro v w1 hx (q13:v 13 = _) (q14:(fun v w'=>Q0d w' (v 14) [Q0q (z0) 12,Q0q (z6) 5,fe9]) v w1);intro bb hbb;subst hbb;intro K hK;go_simp;refine Q0e (HFR.out w1 _ q14) ?_;rintro e w2 ⟨rfl,rfl⟩;exact ⟨_,rfl,hK _ _ (Ext.refl _) rfl⟩
      case g16=>
       intro v w1 hx (q0:v 0 = _) (q1:v 1 = _) (q2:v 2 = _) (q3:v 3 = _) (q4:v 4 = _) (q5:v 5 = _) (q6:v 6 = _) (q7:v 7 = _) (q8:v 8 = _) (q9:v 9 = _) (q10:v 10 = _) (q11:v 11 = _) _ (q13:v 13 = _) _ (q15:v 15 = _);intro bb hbb;subst hbb;refine ⟨_,fun w=>?_,rfl⟩;go_simp
      case post =>
       intro v w1 hx;(iterate 12 intro (zq:v _ = _));intro (q12:(fun v w'=>Q0d w' (v 12) (cs.map fun x=>Q0f x 0 9)) v w1);(iterate 1 intro (zq:v _ = _));intro (q14:(fun v w'=>Q0d w' (v 14) [Q0q (z0) 12,Q0q (z6) 5,fe9]) v w1);(iterate 2 intro (zq:v _ = _));simp only [Flow.All,Flow.acts,Act.put];go_simp;have HX6:=Lib.hid (HX3.out.trans (hdr.trans hx));clear hx hdr q12 q14;(repeat clear zq)
       by_cases hr0:re = 0
       . have hrb:(re != 0) = false:=by simp [hr0]
         have hd:=HDR.out;rw [if_pos hr0] at hd;clear hr0;go_wp2;go_roundw
         case rel=>exact ⟨k + 1,by omega,by go_num,by rw [<- hd]; exact HFE.out.symm,HX6.out⟩
         case measure=>simp [intOf]; omega
       . have hrb:(re != 0) = true:=by simp [hr0]
         have hd:=HDR.out;rw [if_neg hr0] at hd;have HD:=Lib.hid hd;clear hr0 hd;go_wp2;go_ret;exact ⟨by rw [<- HFE.out.symm,HD.out]; rfl,HX6.out⟩
    . have hkI:¬ (k:Int) < n:=by omega
      have hkn:k = n:=by omega
      have hz:Q0j (p.map Q5m) = 0:=by rw [<- hfe,hkn,List.drop_eq_nil_of_le (by rw [HN.out]; omega)]; rfl
      have HZ:=Lib.hid hz;clear hfe hz;go_wp2;go_ret;exact ⟨by rw [HZ.out]; rfl,hx0⟩
end Go.Proofs
namespace Go.Proofs
open Go.RowKit Go.Tw Go.Flow
attribute [local go_sem] Oper.semAt_some
def Words (w:World):Prop:=w.cell? ⟨0,0,none⟩ = some (.string ⟨#[111,112,101,110]⟩) /\ w.cell? ⟨0,1,none⟩ = some (.string ⟨#[99,108,111,115,101]⟩)
theorem Words.ext {w w':World} (h:Words w) (hx:Ext w w'):Words w':=⟨hx.cell h.1,hx.cell h.2⟩
def X3j (c:Bool):ByteArray:=⟨(J2v c).toArray⟩
def Z5n (l:List Int) (c:Bool):ByteArray:=X8a (l.map Q4a ++ [X3j c]) spS ++ nlS
theorem Y4h (c:UInt8):∀ l:List (List UInt8),Lib.join l [c] = glue c l
 | []=>rfl
 | [x]=>Lib.join_one x [c]
 | x :: y :: r=>by
   have ih:=Y4h c (y :: r);rw [Lib.join_cons] at ih ⊢;show x ++ (([c] ++ y) ++ Lib.joinTail [c] r) = x ++ c :: glue c (y :: r);rw [<- ih];simp
theorem Z8p {x:Int} (h0:0 <= x) (h9:x <= 9):(Q4a x).data.toList = [J3g x]:=by
 obtain ⟨n,rfl⟩:∃ n:Nat,x = n:=⟨x.toNat,by omega⟩
 have hn:n < 10:=by omega
 have key:∀ n:Nat,n < 10 -> (Q4a (n:Int)).data.toList = [J3g (n:Int)]:=by
  intro n hn;show (Lib.decDigits ((n:Int).toNat)).toArray.toList = _;rw [List.toList_toArray,Int.toNat_natCast,Lib.decDigits];simp [hn,J3g]
 exact key n hn
theorem line_text {r:Rul} (hd:∀ x ∈ r.classes,0 <= x /\ x <= 9):(Z5n r.classes r.close).data.toList = Q9m r ++ [10]:=by
 have e:(X8a (r.classes.map Q4a ++ [X3j r.close]) spS).data.toList = Q9m r:=by
  show (Lib.join ((r.classes.map Q4a ++ [X3j r.close]).map (·.data.toList)) [32]).toArray.toList = _;rw [List.toList_toArray,Y4h];unfold Q9m Y5q
  congr 1
  rw [List.map_append,List.map_map]
  congr 1
  exact List.map_congr_left fun x hx=>Z8p (hd x hx).1 (hd x hx).2
 unfold Z5n;rw [ByteArray.data_append,Array.toList_append,e];rfl
def Q7w (p:List Rul) (k:Nat):List UInt8:=textOf ((p.take k).map Q9m)
theorem Y7c {p:List Rul} {k:Nat} (hk:k < p.length):Q7w p (k + 1) = Q7w p k ++ (Q9m (p.getD k default) ++ [10]):=by
 unfold Q7w textOf;rw [List.take_succ_eq_append_getElem hk,Q0v _ hk,List.map_append,List.map_append,List.flatten_append];simp only [List.map_cons,List.map_nil,List.flatten_cons,List.flatten_nil,List.append_nil]
theorem Z1d (p:List Rul):Q7w p p.length = Y2j p:=by unfold Q7w Y2j; rw [List.take_length]
structure J3x (r:Rul):Prop where
 len:r.classes.length <= 6
 dig:∀ x ∈ r.classes,0 <= x /\ x <= 9
theorem Q4x {l:List Int} {m:Int} (h:Q0p l m = 0):∀ x ∈ l,0 <= x /\ x <= m:=by
 unfold Q0p at h
 induction l with
 | nil=>intro x hx; cases hx
 | cons y l ih =>
   rw [List.map_cons,Q0g] at h
   by_cases hy:Q0f y 0 m = 0
   . rw [if_pos hy] at h
     intro x hx
     rcases List.mem_cons.1 hx with rfl | hx
     . unfold Q0f at hy
       by_cases hc:x < 0 ∨ m < x
       . rw [if_pos hc] at hy; cases hy
       . omega
     . exact ih h x hx
   . rw [if_neg hy] at h; exact absurd h hy
theorem Y5o {l:List Int} (h:Q0j l = 0):∀ x ∈ l,x = 0:=by
 induction l with
 | nil=>intro x hx; cases hx
 | cons y l ih =>
   rw [Q0g] at h
   by_cases hy:y = 0
   . rw [if_pos hy] at h
     intro x hx
     rcases List.mem_cons.1 hx with rfl | hx
     . exact hy
     . exact ih h x hx
   . rw [if_neg hy] at h; exact absurd h hy
theorem Y4z {p:List Rul} (h:Q6t p = 0):p.length <= 48 /\ ∀ r ∈ p,J3x r:=by
 unfold Q6t at h
 by_cases h48:48 < p.length
 . rw [if_pos h48] at h; cases h
 . rw [if_neg h48] at h
   refine ⟨by omega,fun r hr=>?_⟩
   have h1:=Y5o h _ (List.mem_map_of_mem hr);unfold Q5m at h1
   by_cases h0:r.classes.length = 0
   . rw [if_pos h0] at h1; cases h1
   . rw [if_neg h0] at h1
     by_cases h6:6 < r.classes.length
     . rw [if_pos h6] at h1; cases h1
     . rw [if_neg h6] at h1
       exact ⟨by omega,Q4x h1⟩
theorem Z2t {l:List Int} {c:Bool} (hl:l.length <= 6) (hd:∀ x ∈ l,0 <= x /\ x <= 9):(X8a (l.map Q4a ++ [X3j c]) spS).size <= 5000000:=by
 have h:=Z2o (xs:=l.map Q4a ++ [X3j c]) (sep:=spS) (B:=8) (by simp; omega) (fun x hx=>by
  rcases List.mem_append.1 hx with hx | hx
  . obtain ⟨y,hy,rfl⟩:=List.mem_map.1 hx
    have h1:=hd y hy;have:=X2o h1.1 (by omega:y < 100)
    omega
  . rw [List.mem_singleton.1 hx]; cases c <;> decide) (by decide)
 omega
theorem X4w {w w':World} {base n size B:Nat} {e:TypeId} {v:Value} {xs:List Value} {o:Obj} (hown:w.ownsRow base e size v n xs) (hg:(w.alloc o).grownBy w' v.ownBlock) (hb:B <= base) (hB:B <= w.heap.size):Below B w w' :=
 Below.grown ((Below.refl B w).alloc hB o) hg (by simp; omega) (fun k hk=>Nat.le_trans hb (hown.lt k hk).1)
def Y9y (p:List Rul):ByteArray:=if Q6t p = 0 then Z9h p else emp
theorem Z1t (w:World) (v:Value) (p:List Rul) (hv:Q1c w v p) (hr:∀ r ∈ p,r.classes.length <= 4096) (hW:Words w) :
    Calls Tryz.prog 81 #[v] w fun e w'=>e = .returned (.tuple #[.string (Y9y p),.int .i64 (Q6t p)]) /\ Ext w w':=by
 obtain ⟨i0,hi,hz0,hz1,hz2⟩:=info_parts Tryz.Y3g;obtain ⟨a,rfl,h2⟩:=hv;obtain ⟨A,cap,rfl,hl,hcap,hc⟩:=h2.opened;have H2:=Lib.hid h2;have HC:=Lib.hid hc;have HR:=Lib.hid hr;have HW:=Lib.hid hW;clear h2 hc hr hW;obtain ⟨n,hn⟩:∃ n,p.length = n:=⟨_,rfl⟩;have HN:=Lib.hid hn;rw [hn] at hl HC H2 ⊢;go_enter Tryz.func81,Tryz.ntmps81;go_wp2_with fail;change Calls _ _ _ (w.alloc (.cells #[.slice A n cap] 38)) _;obtain ⟨W,hWW,k0,HXW,eW⟩:=Q1q w 38 #[.slice A n cap];rw [hWW];clear hWW;have K0:=Lib.hid k0;refine (X9i W _ p ⟨_,rfl,H2.out.ext HXW.out⟩ HR.out).mono ?_;rintro e w5 ⟨rfl,hx5⟩;have HX5:=Lib.hid (HXW.out.trans hx5);have hk5:=k0.ext hx5;obtain ⟨gp,hgp⟩:∃ z,w.heap.size = z:=⟨_,rfl⟩;rw [hgp] at hk5 ⊢;clear k0 hx5 hgp eW
 by_cases he:Q6t p = 0
 . have hfin:=Y4z he
   have HF:=Lib.hid hfin.2;have hn48:n <= 48:=by have:=hfin.1; omega
   have HPE:Hid (Y9y p = Z9h p):=Lib.hid (if_pos he);have HE:=Lib.hid he;obtain ⟨E,hE⟩:∃ E,Q6t p = E:=⟨_,rfl⟩;have hne:(E != 0) = false:=by rw [<- hE]; simp [he]
   rw [hE];have c5:(w5.alloc (.cells #[.pointer none,.slice none 0 0] 214)).cell? ⟨gp,0,none⟩ = some (.slice A n cap):=(hk5.ext (Ext.box w5 _)).cell 0;have HEE:=Lib.hid hE;clear hk5 he hfin hE hn;go_wp2;have hbf:=Bld.fresh w5;have hxf:=Ext.box w5 (.cells #[.pointer none,.slice none 0 0] 214);obtain ⟨gb,hgb⟩:∃ z,w5.heap.size = z:=⟨_,rfl⟩;have HGB:=Lib.hid hgb;have hsf:(w5.alloc (.cells #[.pointer none,.slice none 0 0] 214)).heap.size = gb + 1:=by rw [<- hgb]; simp
   rw [hgb] at hbf ⊢;obtain ⟨wf,hwf⟩:∃ z,w5.alloc (.cells #[.pointer none,.slice none 0 0] 214) = z:=⟨_,rfl⟩;rw [hwf] at hbf hxf hsf ⊢;have HBF:=Lib.hid hbf;have HXF:=Lib.hid (HX5.out.trans hxf);have HSF:=Lib.hid hsf;have HGW:Hid (w.heap.size <= gb):=Lib.hid (by have:=HX5.out.size; omega)
   clear hbf hxf hsf hwf hgb c5
   go_loopw [18] (fun i wr=>∃ k:Nat,k <= n /\ i = .int .i64 k /\ Bld wr gb (Q7w p k) /\ Below gb wf wr /\ (Q7w p k).length <= k * 6000000) (fun i _=>n - (intOf i).toNat)
   case atStart=>exact ⟨0,Nat.zero_le _,rfl,HBF.out,Below.refl _ _,by simp [Q7w,textOf]⟩
   case round =>
    obtain ⟨k,hk,rfl,hbl,hlow,hlen⟩:=hrel
    by_cases hlt:k < n
    . have hkI:(k:Int) < n:=by omega
      have hxr:Ext w wr:=Below.trans HXF.out (hlow.mono HGW.out);obtain ⟨b,off,x,rfl,hb,e0,e1,hi0⟩:=HC.out k hlt;replace e0:=hxr.cell e0;replace e1:=hxr.cell e1;have hkp:k < p.length:=by rw [HN.out]; exact hlt
      have hfr:=HF.out (p.getD k default) (by rw [Q0v _ hkp]; exact List.getElem_mem hkp)
      have hts:=Y7c hkp;have hlt9:=line_text hfr.dig;obtain ⟨X,capx,rfl,-,-,-⟩:=hi0.opened;have HI:=Lib.hid (hi0.ext hxr);have HXR:=Lib.hid hxr;have HBL:=Lib.hid hbl;have HLOW:=Lib.hid hlow;have hwd:=HW.out.ext hxr;have hcl6:(Q0w p k).length <= 6:=hfr.len;have HDG:Hid (∀ x ∈ Q0w p k,0 <= x /\ x <= 9):=Lib.hid hfr.dig;have hlsz:=Z2t (c:=Q4q p k) hcl6 HDG.out;rw [<- hlt9] at hts;change Q7w p (k + 1) = Q7w p k ++ (Z5n (Q0w p k) (Q4q p k)).data.toList at hts;obtain ⟨cs,hcs⟩:∃ c,Q0w p k = c:=⟨_,rfl⟩;obtain ⟨cb,hcb⟩:∃ c,Q4q p k = c:=⟨_,rfl⟩;obtain ⟨tx,htx⟩:∃ c,Q7w p k = c:=⟨_,rfl⟩;rw [hcs] at e0 HI hcl6 HDG hlsz hts;rw [hcb] at e1 hlsz hts;rw [htx] at HBL hts hlen;have HTS:=Lib.hid hts;have HLSZ:=Lib.hid hlsz;obtain ⟨L,hL⟩:∃ L,cs.length = L:=⟨_,rfl⟩;have HLL:=Lib.hid hL;rw [hL] at e0 HI hcl6;clear hbl hlow hxr hi0 hfr hlt9 hcs hcb htx hts hlsz hL;obtain ⟨wq,rfl⟩:∃ X,X = wr:=⟨_,rfl⟩;cases cb with
      | false =>
        have hwx:=hwd.ext (Ext.box wq (.cells #[.slice X L capx,.bool false] 167));have w0:=hwx.1;have w9:=hwx.2;clear hwx;go_wp2_with fail;obtain ⟨W,hWW,k0,HXW,eW⟩:=Q1q wq 167 #[.slice X L capx,.bool false];rw [hWW];clear hWW;clear k0;refine (X6k W _ cs (HLL.out ▸ HI.out.ext HXW.out) (by rw [HLL.out]; omega) (fun x hx=>by have:=HDG.out x hx; omega)).mono ?_
        rintro e w3 ⟨u,rfl,hu,hx3⟩;have HX3:=Lib.hid (HXW.out.trans hx3);have HWW:=Lib.hid HXW.out.size;have hlm:(cs.map Q4a).length <= 6:=by rw [List.length_map,HLL.out]; exact hcl6
        have hb3:W.heap.size <= w3.heap.size:=hx3.size;clear w0 w9 e0 e1;go_wp2_with ((at_builtin; refine wpList_append_own _ rfl _ _ 157 rfl (W.heap.size) 9 i0 (.string emp) 1 16 Tryz.underlying157 hi hz0 hz1 hz2 rfl (by decide) _ _ _ rfl (World.ownsRow.alloc hu _) ⟨w3.heap.size,0,none⟩ 1 1 [.string ⟨#[111,112,101,110]⟩] rfl rfl ?_ ?_ ?_ ?_ ?_ ?_; exact Q4b _ _ _; (focus (simp [Value.oneCell'])); (focus (unfold maxLen; omega)); (focus omega); (focus (have:=hx3.size; simp at this ⊢; omega)); intro v' w1 hown' hgrow _); refine halted ?_)
        have hx4:Ext wq w1:=Below.trans HX3.out (X4w hu hgrow (Nat.le_trans HWW.out (Nat.le_refl _)) (Nat.le_trans HWW.out hb3));have hown4:Q0t w1 W.heap.size 9 .string v' (cs.map Q4a ++ [X3j false]):=Q0t.snoc hown';have hsz:∀ x ∈ cs.map Q4a ++ [X3j false],x.size <= 5000000:=by
         intro x hx
         rcases List.mem_append.1 hx with hx | hx
         . obtain ⟨y,hy,rfl⟩:=List.mem_map.1 hx
           have h1:=HDG.out y hy;have:=X2o h1.1 (by omega:y < 100)
           omega
         . rw [List.mem_singleton.1 hx]; decide
        have HJ:=Lib.hid (Z0c w1 W.heap.size v' _ spS hown4 (by have:=HLL.out; rw [List.length_append,List.length_map]; show cs.length + 1 <= _; omega) (by simp) hsz (by decide))
        have HX4:=Lib.hid hx4;have HLB:Hid (Z5n cs false = X8a (cs.map Q4a ++ [X3j false]) spS ++ nlS):=Lib.hid rfl;have hls:=HLSZ.out;obtain ⟨js,hjs⟩:∃ j,X8a (cs.map Q4a ++ [X3j false]) spS = j:=⟨_,rfl⟩;rw [hjs] at HJ HLB hls;have HJ':Hid (Calls Tryz.prog 149 #[v',.string ⟨#[32]⟩] w1 fun e w'=>e = .returned (.string js) /\ Ext w1 w'):=Lib.hid HJ.out;have hj2:¬ 9223372036854775807 < js.size + 1:=by omega
        have hj3:js.size + 1 <= 9223372036854775807:=by omega
        have hj4:js.size < 9223372036854775807:=by omega
        clear hown' hgrow hx4 hown4 hsz HJ hjs hu hx3 hb3 hlm;unfold Q1j;go_wp2_with (go_at_call 149; refine HJ'.out.mono ?_; rintro e w6 ⟨rfl,hx6⟩; refine halted ?_);have HX6:=Lib.hid (HX4.out.trans hx6);have HWS:=Lib.hid (write_any w6 gb tx (js ++ nlS) (HBL.out.ext HX6.out) (by rw [ByteArray.size_append]; have:nlS.size = 1:=rfl; omega))
        have HWS':Hid (Calls Tryz.prog 148 #[.pointer (some ⟨gb,0,none⟩),.string (js ++ ⟨#[10]⟩)] w6 fun e w'=>e = .returned (.tuple #[.int .i64 ((js ++ nlS).size),.nilIface]) /\ Bld w' gb (tx ++ (js ++ nlS).data.toList) /\ Below gb w6 w'):=Lib.hid HWS.out;clear hx6 HWS;unfold Q1j;go_wp2_with (go_at_call 148; refine HWS'.out.mono ?_; rintro e w7 ⟨rfl,hb7,hx7⟩);go_roundw
        case rel=>exact ⟨k + 1,by omega,by go_num,by rw [HTS.out,HLB.out]; exact hb7,Below.trans HLOW.out (Below.trans (HX6.out.mono (by have:=HBL.out.lt; omega)) hx7),by rw [HTS.out,HLB.out,List.length_append,Array.length_toList]; show tx.length + (js ++ nlS).size <= _; rw [ByteArray.size_append]; have:nlS.size = 1:=rfl; omega⟩
        case measure=>simp [intOf]; omega
      | true =>
        have hwx:=hwd.ext (Ext.box wq (.cells #[.slice X L capx,.bool true] 167));have w0:=hwx.1;have w9:=hwx.2;clear hwx;go_wp2_with fail;obtain ⟨W,hWW,k0,HXW,eW⟩:=Q1q wq 167 #[.slice X L capx,.bool true];rw [hWW];clear hWW;clear k0;refine (X6k W _ cs (HLL.out ▸ HI.out.ext HXW.out) (by rw [HLL.out]; omega) (fun x hx=>by have:=HDG.out x hx; omega)).mono ?_
        rintro e w3 ⟨u,rfl,hu,hx3⟩;have HX3:=Lib.hid (HXW.out.trans hx3);have HWW:=Lib.hid HXW.out.size;have hlm:(cs.map Q4a).length <= 6:=by rw [List.length_map,HLL.out]; exact hcl6
        have hb3:W.heap.size <= w3.heap.size:=hx3.size;clear w0 w9 e0 e1;go_wp2_with ((at_builtin; refine wpList_append_own _ rfl _ _ 157 rfl (W.heap.size) 9 i0 (.string emp) 1 16 Tryz.underlying157 hi hz0 hz1 hz2 rfl (by decide) _ _ _ rfl (World.ownsRow.alloc hu _) ⟨w3.heap.size,0,none⟩ 1 1 [.string ⟨#[99,108,111,115,101]⟩] rfl rfl ?_ ?_ ?_ ?_ ?_ ?_; exact Q4b _ _ _; (focus (simp [Value.oneCell'])); (focus (unfold maxLen; omega)); (focus omega); (focus (have:=hx3.size; simp at this ⊢; omega)); intro v' w1 hown' hgrow _); refine halted ?_)
        have hx4:Ext wq w1:=Below.trans HX3.out (X4w hu hgrow (Nat.le_trans HWW.out (Nat.le_refl _)) (Nat.le_trans HWW.out hb3));have hown4:Q0t w1 W.heap.size 9 .string v' (cs.map Q4a ++ [X3j true]):=Q0t.snoc hown';have hsz:∀ x ∈ cs.map Q4a ++ [X3j true],x.size <= 5000000:=by
         intro x hx
         rcases List.mem_append.1 hx with hx | hx
         . obtain ⟨y,hy,rfl⟩:=List.mem_map.1 hx
           have h1:=HDG.out y hy;have:=X2o h1.1 (by omega:y < 100)
           omega
         . rw [List.mem_singleton.1 hx]; decide
        have HJ:=Lib.hid (Z0c w1 W.heap.size v' _ spS hown4 (by have:=HLL.out; rw [List.length_append,List.length_map]; show cs.length + 1 <= _; omega) (by simp) hsz (by decide))
        have HX4:=Lib.hid hx4;have HLB:Hid (Z5n cs true = X8a (cs.map Q4a ++ [X3j true]) spS ++ nlS):=Lib.hid rfl;have hls:=HLSZ.out;obtain ⟨js,hjs⟩:∃ j,X8a (cs.map Q4a ++ [X3j true]) spS = j:=⟨_,rfl⟩;rw [hjs] at HJ HLB hls;have HJ':Hid (Calls Tryz.prog 149 #[v',.string ⟨#[32]⟩] w1 fun e w'=>e = .returned (.string js) /\ Ext w1 w'):=Lib.hid HJ.out;have hj2:¬ 9223372036854775807 < js.size + 1:=by omega
        have hj3:js.size + 1 <= 9223372036854775807:=by omega
        have hj4:js.size < 9223372036854775807:=by omega
        clear hown' hgrow hx4 hown4 hsz HJ hjs hu hx3 hb3 hlm;unfold Q1j;go_wp2_with (go_at_call 149; refine HJ'.out.mono ?_; rintro e w6 ⟨rfl,hx6⟩; refine halted ?_);have HX6:=Lib.hid (HX4.out.trans hx6);have HWS:=Lib.hid (write_any w6 gb tx (js ++ nlS) (HBL.out.ext HX6.out) (by rw [ByteArray.size_append]; have:nlS.size = 1:=rfl; omega))
        have HWS':Hid (Calls Tryz.prog 148 #[.pointer (some ⟨gb,0,none⟩),.string (js ++ ⟨#[10]⟩)] w6 fun e w'=>e = .returned (.tuple #[.int .i64 ((js ++ nlS).size),.nilIface]) /\ Bld w' gb (tx ++ (js ++ nlS).data.toList) /\ Below gb w6 w'):=Lib.hid HWS.out;clear hx6 HWS;unfold Q1j;go_wp2_with (go_at_call 148; refine HWS'.out.mono ?_; rintro e w7 ⟨rfl,hb7,hx7⟩);go_roundw
        case rel=>exact ⟨k + 1,by omega,by go_num,by rw [HTS.out,HLB.out]; exact hb7,Below.trans HLOW.out (Below.trans (HX6.out.mono (by have:=HBL.out.lt; omega)) hx7),by rw [HTS.out,HLB.out,List.length_append,Array.length_toList]; show tx.length + (js ++ nlS).size <= _; rw [ByteArray.size_append]; have:nlS.size = 1:=rfl; omega⟩
        case measure=>simp [intOf]; omega
    . have hkI:¬ (k:Int) < n:=by omega
      have hkn:k = n:=by omega
      subst hkn;have hta:Q7w p k = Y2j p:=by rw [<- HN.out]; exact Z1d p
      rw [hta] at hbl;have HBS:=Lib.hid (Y8q wr gb _ hbl);have HXR:Hid (Ext w wr):=Lib.hid (Below.trans HXF.out (hlow.mono HGW.out));clear hbl hlow hta hlen;go_wp2_with (go_at_call 150; refine HBS.out.mono ?_; rintro e w7 ⟨rfl,hx7⟩);refine bodyPost_ret (results_tmp2 Tryz.results81 _ _ _) rfl ?_;exact ⟨by rw [HPE.out,<- HEE.out,HE.out]; rfl,Below.trans HXR.out (hx7.mono HGW.out)⟩
 . have hne:(Q6t p != 0) = true:=by simp [he]
   have HPE:Hid (Y9y p = emp):=Lib.hid (if_neg he);clear he hk5;go_wp2;refine bodyPost_ret (results_tmp2 Tryz.results81 _ _ _) rfl ?_;exact ⟨by rw [HPE.out]; rfl,HX5.out⟩
end Go.Proofs
namespace Go.Proofs.YthnobngcipaljaaGreatDoor
open Go.ChangeShapes Go.WideShapes Go.ChangeAt Go.RowKit Go.Tw
theorem own:ownKnob Tryz.prog.godebug = none:=by kernel_rfl
theorem laidOut:laidOutB Tryz.prog = true:=by kernel_rfl
def Z2r:List (String × DataW Unit):=Rows.policyFollowsRow.laid
theorem X1n {W:World} (h:laidMetH Tryz.prog Z2r W):Words W:=by
 rw [MakeChecks.laidMetH_plain _ _ _ (by kernel_rfl)] at h
 obtain ⟨ps,⟨g0,t0,cs0,f0,p0,q0,hg0,ht0,hv0,hd0,⟨g1,t1,cs1,f1,p1,q1,hg1,ht1,hv1,hd1,⟨g2,t2,cs2,f2,p2,q2,hg2,ht2,hv2,hd2,⟨g3,t3,cs3,f3,p3,q3,hg3,ht3,hv3,hd3,_⟩,_⟩,_⟩,_⟩,_,_⟩:=h;obtain rfl:=Option.some.inj ((show Tryz.prog.globalNamed (Z2r[3]?.map (·.1)).get! = some 0 by kernel_rfl).symm.trans hg3)
 obtain ⟨t,ht⟩:∃ t,(Tryz.prog.globals[0]?).map (·.type) = some t:=⟨_,ht3⟩;obtain rfl:=Option.some.inj (ht.symm.trans ht3);have hty:(Tryz.prog.globals[0]?).map (·.type) = some 215:=by kernel_rfl
 obtain rfl:=Option.some.inj (hty.symm.trans ht);obtain ⟨xs,m,_,hx,hlen,hxl,hel⟩:=DataW.trod_array Tryz.underlying215 hd3;rw [Tryz.cS] at hel;have hm:xs.map (·.1) = [.lit (.string [111,112,101,110]),.lit (.string [99,108,111,115,101])]:=by
  have:=congrArg Prod.fst hx;simp only [Rows.laid_tideway_policy_words] at this;injection this with this;exact this.symm
 obtain ⟨x0,x1,rfl⟩:∃ a b,xs = [a,b]:=by
  match xs,hxl with
  | [a,b],_=>exact ⟨a,b,rfl⟩
 simp only [List.map_cons,List.map_nil,List.cons.injEq,and_true] at hm;obtain ⟨hx0,hx1⟩:=hm;obtain ⟨s0,hc0,rfl,_⟩:=DataW.trod_string Tryz.underlying9 (hel 0 (by decide))
 obtain ⟨s1,hc1,rfl,_⟩:=DataW.trod_string Tryz.underlying9 (hel 1 (by decide))
 have e0:s0 = ⟨#[111,112,101,110]⟩:=by
  simp only [DataW.lit.injEq,Lit.string.injEq] at hx0;obtain ⟨d⟩:=s0;obtain ⟨l⟩:=d;have h:l = [111,112,101,110]:=hx0;rw [h]
 have e1:s1 = ⟨#[99,108,111,115,101]⟩:=by
  simp only [DataW.lit.injEq,Lit.string.injEq] at hx1;obtain ⟨d⟩:=s1;obtain ⟨l⟩:=d;have h:l = [99,108,111,115,101]:=hx1;rw [h]
 subst e0 e1;obtain ⟨l3⟩:=cs3;have hl2:l3.length = 2:=by
  have h:=hlen;rw [show Tryz.prog.cellsOf 215 = 2 from by kernel_rfl] at h
  exact h
 obtain ⟨c0,c1,rfl⟩:∃ a b,l3 = [a,b]:=by
  match l3,hl2 with
  | [a,b],_=>exact ⟨a,b,rfl⟩
 simp at hc0 hc1;subst hc0 hc1;exact ⟨by rw [World.var?_cell hg3 hv3 0]; rfl,by rw [World.var?_cell hg3 hv3 1]; rfl⟩
end Go.Proofs.YthnobngcipaljaaGreatDoor
namespace Go.Proofs.YthnobngcipaljaaGreatDoor
open Go.ChangeShapes Go.WideShapes Go.ChangeAt Go.RowKit Go.Tw
theorem X0o {a b:Bool} (h:a = true) (k:b = true):(a && b) = true:=by rw [h,k]; rfl
theorem J4c {a b:Bool} (h:(a && b) = true):a = true:=by cases a <;> simp_all
theorem J3n {a b:Bool} (h:(a && b) = true):b = true:=by cases a <;> simp_all
theorem Z6d (P:Program) (f:FuncId) (fn:Func) (s:ChangeSpec) (c:OpenClaim)
    (k0:(c.wf (OpenSpec.ofChange s):Bool) = true)
    (k1:(laidOutB P:Bool) = true)
    (k2:(mapsRowed P:Bool) = true)
    (k3:(fn.params.all (P.readableRec ·):Bool) = true)
    (k4:(namedTie P c.named s.vars:Bool) = true)
    (k5:((c.stops == []):Bool) = true)
    (k6:((P.stops == []):Bool) = true)
    (k7:((c.knobs == []):Bool) = true)
    (k8:((P.stopKnobs == []):Bool) = true)
    (k9:((c.inPlace == P.inPlace f):Bool) = true)
    (k10:((c.unfollowed == P.unfollowed f):Bool) = true)
    (k11:((c.recurses == P.recurses f):Bool) = true)
    (k12:((c.named == P.varsNamed f):Bool) = true)
    (k13:((c.maps == (fn.params.toList ++ s.plain.varTypes P).any (P.mapsRec ·)):Bool) = true)
    (k14:((c.ifaces == (fn.params.toList ++ s.plain.varTypes P).any (P.ifacesRec ·)):Bool) = true)
    (k15:((c.mapsOut == P.mapsAmong fn.resultTypes.toList):Bool) = true)
    (k16:((c.loops == (fn.params.toList ++ s.plain.varTypes P).any (P.loopsFrom ·)):Bool) = true)
    (k17:((c.wideKeys == (fn.params.toList ++ s.plain.varTypes P ++ fn.resultTypes.toList).any (P.wideKeysFrom ·)):Bool) = true)
    (k18:(s.vars.all (P.varReadable ·):Bool) = true)
    (k19:(fn.resultTypes.all (fun t=>P.readableRec t && decide (t < P.types.size)):Bool) = true)
    (k20:((c.ifacesOut == fn.resultTypes.toList.any (P.ifacesRec ·)):Bool) = true)
    (k21:((c.loopsOut == fn.resultTypes.toList.any (P.loopsFrom ·)):Bool) = true)
    (k22:((c.plainKeys == P.plainKeys):Bool) = true)
    (k23:(c.shortTexts.isNone:Bool) = true)
    (k24:(P.stopsHeard:Bool) = true)
    (k25:(P.mayEnter:Bool) = true)
    (k26:((c.lifted == P.liftsFinal):Bool) = true)
    (k27:((P.make == some c.make):Bool) = true)
    (k28:(c.domain.isEmpty && (c.kinds == []):Bool) = true)
    (k29:((c.pinned == c.pinnedBy):Bool) = true)
    (k30:((c.veiled == (fn.params.toList ++ s.plain.varTypes P ++ fn.resultTypes.toList).any (P.veiledRec ·)):Bool) = true)
    (k31:(c.veiledFits P fn.params.toList (fn.params.toList ++ s.plain.varTypes P ++ fn.resultTypes.toList):Bool) = true)
   :joinedFacts P f fn s c = true:=by unfold joinedFacts; exact X0o (X0o (X0o (X0o (X0o (X0o (X0o (X0o (X0o (X0o (X0o (X0o (X0o (X0o (X0o (X0o (X0o (X0o (X0o (X0o (X0o (X0o (X0o (X0o (X0o (X0o (X0o (X0o (X0o (X0o (X0o (k0) k1) k2) k3) k4) k5) k6) k7) k8) k9) k10) k11) k12) k13) k14) k15) k16) k17) k18) k19) k20) k21) k22) k23) k24) k25) k26) k27) (by rw [if_pos (J4c k28)]; exact J3n k28)) k29) k30) k31
theorem J0u:(laidOutB Tryz.prog:Bool) = true:=by kernel_rfl
theorem J0q:(mapsRowed Tryz.prog:Bool) = true:=by kernel_rfl
theorem Z9u:((Tryz.prog.stops == []):Bool) = true:=by kernel_rfl
theorem J0a:((Tryz.prog.stopKnobs == []):Bool) = true:=by kernel_rfl
theorem Z8q:(Tryz.prog.stopsHeard:Bool) = true:=by kernel_rfl
theorem Z8b:(Tryz.prog.mayEnter:Bool) = true:=by kernel_rfl
end Go.Proofs.YthnobngcipaljaaGreatDoor
namespace Go.Proofs
open Go.RowKit Go.Tw Go.Flow
attribute [local go_sem] Oper.semAt_some
theorem Y4j (w:World) (v u:Value) (s:Q0b) (l:List Int) (hv:Q0h w v s) (hu:Q0d w u l) (hs:Q0y s) (hin:∀ x ∈ l,0 <= x /\ x < s.members.length) (hle:l.length <= 4096) :
    Calls Tryz.prog 134 #[v,u] w fun e w'=>e = .returned (.int .i64 (Q2e s l)) /\ Ext w w':=by
 obtain ⟨a,b,rfl,h2⟩:=hv;obtain ⟨A,capa,rfl,-,-,-⟩:=h2.ships.opened;obtain ⟨B,capb,rfl,hlb,hcapb,hcb⟩:=h2.members.opened;obtain ⟨U,cap,rfl,hl,hcap,hc⟩:=hu.opened;clear hu h2;have hxW:=Ext.box w (.cells #[.int .i64 s.limit,.slice A s.ships.length capa,.slice B s.members.length capb] 34);have k0:=Blk.made w 34 #[.int .i64 s.limit,.slice A s.ships.length capa,.slice B s.members.length capb];have c2:=k0.cell 2;simp only [Go.Tw.gA,Go.Tw.gB,Go.Tw.gC] at c2;clear k0;have HX:=Lib.hid hxW; clear hxW;have HS:=Lib.hid hs; clear hs;have HIN:=Lib.hid hin; clear hin;have HM:Hid (s.members.length <= 8):=HS.out.some.2;go_enter Tryz.func134,Tryz.ntmps134;go_wp2
 go_loopw [5,10] (fun n i wr=>∃ (k:Nat) (m:Int),k <= l.length /\ i = .int .i64 k /\ n = .int .i64 m /\ m = Q4n s l k /\ Ext (w.alloc (.cells #[.int .i64 s.limit,.slice A s.ships.length capa,.slice B s.members.length capb] 34)) wr) (fun _ i _=>l.length - (intOf i).toNat)
 case atStart=>exact ⟨0,0,Nat.zero_le _,rfl,rfl,rfl,Ext.refl _⟩
 case round =>
  obtain ⟨k,m,hk,rfl,rfl,hr,hx⟩:=hrel;have HR:=Lib.hid hr; clear hr;replace c2:=hx.cell c2
  by_cases hlt:k < l.length
  . obtain ⟨b,off,rfl,hcell⟩:=hc k hlt
    have h3:=HIN.out _ (List.getElem_mem hlt);rw [<- Q4w hlt] at h3;obtain ⟨j,hj⟩:∃ j:Nat,ix l k = j:=⟨(ix l k).toNat,by omega⟩
    obtain ⟨b',off',x,y,z,rfl,-,-,hcell',-⟩:=hcb j (by omega)
    replace hcell:=(HX.out.trans hx).cell hcell;replace hcell':=(HX.out.trans hx).cell hcell';have hb2:=X6j HS.out HIN.out (k + 1) (by omega)
    have hsum:Q4n s l (k + 1) = m + Q0k s.members j:=by rw [X1x hlt,HR.out,hj,Int.toNat_natCast]
    rw [hsum] at hb2;rw [hj] at hcell h3;have HSM:=Lib.hid hsum; clear hsum;have i1:(k:Int) < l.length:=by omega
    have i0:(j:Int) < s.members.length:=h3.2;have i2:0 <= m + Q0k s.members j:=hb2.1;have i3:m + Q0k s.members j <= 10000000:=by omega
    clear hb2 h3 hj hc hcb;go_wp2;go_roundw
    case rel=>exact ⟨k + 1,m + Q0k s.members j,by omega,by go_num,by go_num,HSM.out.symm,hx⟩
    case measure=>simp [intOf]; omega
  . clear hc hcb
    go_wp2;go_ret;exact ⟨Q1f (by rw [HR.out,show k = l.length by omega,Q4n,List.take_length]),HX.out.trans hx⟩
def Q6h (s:Q0b) (n:Int):Bool:=decide (n < 0) || decide ((s.members.length:Int) <= n)
theorem Q4l (w:World) (v:Value) (s:Q0b) (n:Int) (hv:Q0h w v s) :
    Calls Tryz.prog 111 #[v,.int .i64 n] w fun e w'=>e = .returned (.int .i64 (Q0q (Q6h s n) 10)) /\ Ext w w':=by
 obtain ⟨a,b,rfl,h2⟩:=hv;obtain ⟨A,capa,rfl,-,-,-⟩:=h2.ships.opened;obtain ⟨B,capb,rfl,-,-,-⟩:=h2.members.opened;have k0:=Blk.made w 34 #[.int .i64 s.limit,.slice A s.ships.length capa,.slice B s.members.length capb];have HX:=Lib.hid (Ext.box w (.cells #[.int .i64 s.limit,.slice A s.ships.length capa,.slice B s.members.length capb] 34));have c2:=k0.cell 2;simp only [Go.Tw.gA,Go.Tw.gB,Go.Tw.gC] at c2;clear h2 k0;go_enter Tryz.func111,Tryz.ntmps111
 by_cases h0:n < 0
 . have HQ:Hid (Q6h s n = true):=Lib.hid (by unfold Q6h; simp [h0])
   go_wp2_with (refine (Q5o _ _ _).mono ?_; rintro e w5 ⟨rfl,rfl⟩);go_ret;exact ⟨Q1f (by rw [HQ.out]),HX.out⟩
 . obtain ⟨q,hq⟩:∃ q,decide ((s.members.length:Int) <= n) = q:=⟨_,rfl⟩
   have HQ:Hid (Q6h s n = q):=Lib.hid (by unfold Q6h; rw [hq]; simp [h0])
   go_wp2_with (refine (Q5o _ _ _).mono ?_; rintro e w5 ⟨rfl,rfl⟩);go_ret;exact ⟨Q1f (by rw [HQ.out]),HX.out⟩
theorem Tryz.X7e (w:World):(isAgg 34).run Tryz.prog w = .ok true w:=by kernel_rfl
theorem Tryz.Q8c (w:World):(sizeOf 34).run Tryz.prog w = .ok 3 w:=by kernel_rfl
end Go.Proofs
