/- Contracts: mapped(numbers, strconv.Itoa); strings.Join; the line of a rule as the program makes it. Contract: checkText (of the program). Contract: Print (of the program). The values at the document's season. The program's contracts at the document's seasons. -/
import Derived.Test.YthnobngcipaljaaGreatDoorPp31
import Derived.Test.YthnobngcipaljaaGreatDoorPp20
import Derived.Test.YthnobngcipaljaaGreatDoorPp08
import Derived.Test.YthnobngcipaljaaGreatDoorPp12
import Derived.Test.YthnobngcipaljaaGreatDoorPp06
import Derived.Test.YthnobngcipaljaaGreatDoorPp09
import Derived.Test.YthnobngcipaljaaGreatDoorPp04
import Derived.ProofKit
import Derived.Test.YthnobngcipaljaaGreatDoorPp17
import Derived.Test.YthnobngcipaljaaGreatDoorPp28
import Derived.Test.YthnobngcipaljaaGreatDoorPp27
import Derived.Test.YthnobngcipaljaaGreatDoorPp26
import Derived.Test.YthnobngcipaljaaGreatDoorPp29
import Derived.Test.YthnobngcipaljaaGreatDoorPp30
set_option maxRecDepth 1000000
set_option maxHeartbeats 64000000
set_option linter.unusedVariables false
set_option linter.unusedSimpArgs false
set_option linter.constructorNameAsVariable false
open Go.Lib (hid)
namespace Go.Proofs
open Go.RowKit Go.Tw Go.Flow
attribute [local go_sem] Oper.semAt_some
def Q3x (x:Int):ByteArray:=⟨(Lib.decDigits x.toNat).toArray⟩
theorem Z2j (w:World) (x:Int) (h0:0 <= x) (h1:x < 100):Calls Tryz.prog 147 #[.int .i64 x] w fun e w'=>e=.returned (.string (Q3x x)) /\ w'=w:=by
 obtain ⟨n,rfl⟩:∃ n:Nat,x=n:=⟨x.toNat,by omega⟩
 exact Tryz.strconv_Itoa_small n (by omega) w
theorem Z1v (l:List Int) {k:Nat} (hk:k < l.length):(l.map Q3x).take k ++ [Q3x (ix l k)]=(l.map Q3x).take (k + 1):=by
 rw [List.take_succ_eq_append_getElem (by simpa using hk),Q4s hk]
 simp
theorem X4v (w:World) (v:Value) (l:List Int) (hv:Q0d w v l) (hle:l.length <= 4096) (hm:∀ x ∈ l,0 <= x /\ x < 100) :
    Calls Tryz.prog 146 #[v,.func (.func 147) #[] #[]] w fun e w'=>∃ x,e=.returned x /\ Q0q w' w.heap.size 9 .string x (l.map Q3x) /\ Ext w w':=by
 obtain ⟨i0,hi,hz0,hz1,hz2⟩:=info_parts Tryz.X9e;obtain ⟨A,cap,rfl,hl,hcap,hc⟩:=hv.opened;have HC:=hid hc;have HM:=hid hm;clear hv hc hm;go_enter Tryz.func146,Tryz.ntmps146;go_wp2
 go_loopw [5,10] (fun o i wr=>∃ (k:Nat),k <= l.length /\ i=.int .i64 k /\ Q0q wr w.heap.size 9 .string o ((l.map Q3x).take k) /\ Ext w wr) (fun _ i _=>l.length - (intOf i).toNat)
 case atStart=>exact ⟨0,Nat.zero_le _,rfl,Q0q.nil _ _ _ _,Ext.refl _⟩
 case round =>
  obtain ⟨k,hk,rfl,hown,hx⟩:=hrel;have hlen:((l.map Q3x).take k).length=k:=by rw [List.length_take,List.length_map]; omega
  by_cases hlt:k < l.length
  . obtain ⟨b,off,rfl,hcell⟩:=HC.out k hlt
    have HTK:=hid (Z1v l hlt);have hmm:=HM.out (ix l k) (by rw [Q4s hlt]; exact List.getElem_mem hlt)
    obtain ⟨s,hs⟩:∃ s,ix l k=s:=⟨_,rfl⟩;rw [hs] at hcell hmm HTK;have HMM:=hid hmm;replace hcell:=hx.cell hcell;have hll:((l.map Q3x).take k).length <= 4096:=by omega
    obtain ⟨is,his⟩:∃ x,Q3x s=x:=⟨_,rfl⟩;rw [his] at HTK;have HIT:Hid (∀ w,Calls Tryz.prog 147 #[.int .i64 s] w fun e w'=>e=.returned (.string is) /\ w'=w):=hid (fun w=>by rw [<- his]; exact Z2j w s HMM.out.1 HMM.out.2)
    clear hs hmm hlen his;go_wp2_with (first | (go_at_call 147; refine (HIT.out _).mono ?_; rintro e w9 ⟨rfl,rfl⟩) | (at_builtin; refine wpList_append_own _ rfl _ _ 157 rfl (w.heap.size) 9 i0 (.string emp) 1 16 Tryz.underlying157 hi hz0 hz1 hz2 rfl (by decide) _ _ _ rfl (World.ownsRow.alloc hown _) ⟨w9.heap.size,0,none⟩ 1 1 [.string is] rfl rfl ?_ ?_ ?_ ?_ ?_ ?_; exact Q4p _ _ _; (focus (simp [Value.oneCell'])); (focus (unfold maxLen; omega)); (focus omega); (focus (have:=hx.size; simp at this ⊢; omega)); intro v' w1 hown' hgrow _))
    have hx':=Q2w hx hown (Nat.le_refl _) hgrow;go_wp2;go_roundw
    case rel=>exact ⟨k + 1,by omega,by go_num,by rw [<- HTK.out]; exact Q0q.snoc hown',hx'⟩
    case measure=>simp [intOf]; omega
  . have HE:Hid ((l.map Q3x).take k=l.map Q3x):=hid (by rw [List.take_of_length_le (by rw [List.length_map]; omega)])
    rw [HE.out] at hown;have HOWN:=hid hown;clear hown hlen;go_wp2;go_ret;exact ⟨_,rfl,HOWN.out,hx⟩
def X4m (xs:List ByteArray) (sep:ByteArray):ByteArray:=⟨(Lib.join (xs.map (·.data.toList)) sep.data.toList).toArray⟩
def spS:ByteArray:=⟨#[32]⟩
def nlS:ByteArray:=⟨#[10]⟩
theorem Y4x {B:Nat}:∀ {xs:List ByteArray},(∀ x ∈ xs,x.size <= B) -> Lib.lens (xs.map (·.data.toList)) <= B * xs.length
 | [],_=>by simp [Lib.lens]
 | x :: xs,h=>by
   have h1:=Y4x (xs:=xs) fun y hy=>h y (List.mem_cons_of_mem _ hy);have h2:=h x (List.mem_cons_self ..);have h3:x.data.toList.length=x.size:=Array.length_toList;simp only [Lib.lens,List.map_cons,List.sum_cons,List.length_cons,Nat.mul_succ] at h1 ⊢;omega
theorem X1j {x:Int} (h0:0 <= x) (h1:x < 100):(Q3x x).size <= 2:=by
 have h:(Q3x x).size=(Lib.decDigits x.toNat).length:=by simp [Q3x,ByteArray.size]
 rw [h,Lib.decDigits_length];have h2:x.toNat < 100:=by omega
 rw [Lib.nDigits]
 split
 . omega
 . rw [Lib.nDigits,dif_pos (by omega)]
   omega
theorem Y7l (w:World) (base:Nat) (v:Value) (xs:List ByteArray) (sep:ByteArray) (hv:Q0q w base 9 .string v xs) (hl:xs.length <= 4096) (hne:xs ≠ []) (hs:∀ x ∈ xs,x.size <= 5000000) (hsep:sep.size <= 16) :
    Calls Tryz.prog 149 #[v,.string sep] w fun e w'=>e=.returned (.string (X4m xs sep)) /\ Ext w w':=by
 rcases hv.cells2 with ⟨_,h⟩ | ⟨g,c,rfl,hcap,hb,hg,hc⟩
 . exact absurd h hne
 . refine Tryz.strings_Join g 0 c xs sep w (fun j x hx=>?_) hg (by omega) hcap ?_
   . obtain ⟨hj,rfl⟩:=List.getElem?_eq_some_iff.1 hx
     exact hc j hj
   . cases xs with
     | nil=>exact absurd rfl hne
     | cons x r =>
       have h1:=Y4x hs;have h2:sep.data.toList.length=sep.size:=Array.length_toList;have h4:sep.size * r.length <= 16 * 4096:=Nat.mul_le_mul hsep (by rw [List.length_cons] at hl; omega)
       have h5:5000000 * (x :: r).length <= 5000000 * 4096:=Nat.mul_le_mul_left _ hl;rw [List.map_cons,Lib.join_length,List.length_map,h2];rw [List.map_cons] at h1;omega
theorem Z0k {xs:List ByteArray} {sep:ByteArray} {B:Nat} (hl:xs.length <= 4096) (hs:∀ x ∈ xs,x.size <= B) (hsep:sep.size <= 16):(X4m xs sep).size <= 65536 + B * 4096:=by
 have h0:(X4m xs sep).size=(Lib.join (xs.map (·.data.toList)) sep.data.toList).length:=by simp [X4m,ByteArray.size]
 rw [h0];cases xs with
 | nil=>simp [Lib.join_nil]
 | cons x r =>
   have h1:=Y4x hs;have h2:sep.data.toList.length=sep.size:=Array.length_toList;have h4:sep.size * r.length <= 16 * 4096:=Nat.mul_le_mul hsep (by rw [List.length_cons] at hl; omega)
   have h5:B * (x :: r).length <= B * 4096:=Nat.mul_le_mul_left _ hl;rw [List.map_cons,Lib.join_length,List.length_map,h2];rw [List.map_cons] at h1;omega
end Go.Proofs
namespace Go.Proofs
open Go.RowKit Go.Tw Go.Flow
attribute [local go_sem] Oper.semAt_some
theorem Z0t (r:Rul):Q5c r=Q0g [Q0x (decide (r.classes.length=0)) 12,Q0x (decide (6 < r.classes.length)) 5,Q0g (r.classes.map fun x=>Q0f x 0 9)]:=by
 unfold Q5c Q0x Q0o;simp only [Q0r]
 by_cases h0:r.classes.length=0
 . simp [h0]
 . by_cases h6:6 < r.classes.length
   . simp [h0,h6]
   . obtain ⟨x,hx⟩:∃ x,Q0g (r.classes.map fun x=>Q0f x 0 9)=x:=⟨_,rfl⟩
     rw [hx]
     by_cases he:x=0
     . simp [h0,h6,he,Q0g]
     . simp [h0,h6,he]
def Y3t (p:List Rul) (k:Nat):Int:=Q5c (p.getD k default)
theorem Y1i {p:List Rul} {k:Nat} (hk:k < p.length):Q0g ((p.drop k).map Q5c)=if Y3t p k=0 then Q0g ((p.drop (k + 1)).map Q5c) else Y3t p k:=by
 rw [List.drop_eq_getElem_cons hk,List.map_cons,Q0r,Y3t,Q0v _ hk]
theorem X6w (w:World) (v:Value) (p:List Rul) (hv:Q0w w v p) (hr:∀ r ∈ p,r.classes.length <= 4096) :
    Calls Tryz.prog 145 #[v] w fun e w'=>e=.returned (.int .i64 (Q6h p)) /\ Ext w w':=by
 obtain ⟨a,rfl,h2⟩:=hv;obtain ⟨A,cap,rfl,hl,hcap,hc⟩:=h2.opened;have HC:=hid hc;have HR:=hid hr;clear h2 hc hr;go_enter Tryz.func145,Tryz.ntmps145;have HTE:Hid (Q6h p=if 48 < p.length then 5 else Q0g (p.map Q5c)):=hid rfl
 obtain ⟨n,hn⟩:∃ n,p.length=n:=⟨_,rfl⟩;have HN:=hid hn;rw [hn] at HTE hl HC ⊢;clear hn
 by_cases h48:48 < n
 . rw [if_pos h48] at HTE
   have hI:(48:Int) < n:=by omega
   rw [HTE.out];go_wp2;go_ret;exact ⟨rfl,Ext.box _ _⟩
 . rw [if_neg h48] at HTE
   have hI:¬ (48:Int) < n:=by omega
   rw [HTE.out];go_wp2;obtain ⟨W,hWW,k0,HXW,eW⟩:=Q1t w 38 #[.slice A n cap];rw [hWW];clear hWW;clear k0
   go_loopw [13] (fun i wr=>∃ k:Nat,k <= n /\ i=.int .i64 k /\ Q0g ((p.drop k).map Q5c)=Q0g (p.map Q5c) /\ Ext w wr) (fun i _=>n - (intOf i).toNat)
   case atStart=>exact ⟨0,Nat.zero_le _,rfl,rfl,HXW.out⟩
   case round =>
    obtain ⟨k,hk,rfl,hfe,hx0⟩:=hrel
    by_cases hlt:k < n
    . have hkI:(k:Int) < n:=by omega
      obtain ⟨b,off,x,rfl,hb,e0,e1,hi⟩:=HC.out k hlt;replace e0:=hx0.cell e0;replace e1:=hx0.cell e1;obtain ⟨X,capx,rfl,-,-,-⟩:=hi.opened;have hcl:(Q0n p k).length <= 4096:=by
       unfold Q0n; rw [Q0v _ (by rw [HN.out]; exact hlt)]; exact HR.out _ (List.getElem_mem _)
      have hdr':=Y1i (p:=p) (k:=k) (by rw [HN.out]; exact hlt)
      have hre:=Z0t (p.getD k default);change Y3t p k=Q0g [Q0x (decide ((Q0n p k).length=0)) 12,Q0x (decide (6 < (Q0n p k).length)) 5,Q0g ((Q0n p k).map fun x=>Q0f x 0 9)] at hre;rw [hfe] at hdr';have HI:=hid (hi.ext hx0);have HX0:=hid hx0;obtain ⟨cs,hcs⟩:∃ c,Q0n p k=c:=⟨_,rfl⟩;obtain ⟨cb,hcb⟩:∃ c,Q3p p k=c:=⟨_,rfl⟩;obtain ⟨re,hree⟩:∃ c,Y3t p k=c:=⟨_,rfl⟩;obtain ⟨fe,hfee⟩:∃ c,Q0g (p.map Q5c)=c:=⟨_,rfl⟩;rw [hcs] at e0 hcl hre HI;rw [hcb] at e1;rw [hree] at hre hdr';rw [hfee] at hdr';have HFE:=hid hfee;have HRE:=hid hre;have HDR:=hid hdr';clear hfe hcs hcb hree hi hre hdr' hx0;obtain ⟨wq,rfl⟩:∃ X,X=wr:=⟨_,rfl⟩;go_wp2_with fail;obtain ⟨W,hWW,k0,HXW,eW⟩:=Q1t wq 167 #[.slice X cs.length capx,.bool cb];rw [hWW];clear hWW;obtain ⟨gr,hgr⟩:∃ x,wq.heap.size=x:=⟨_,rfl⟩;rw [hgr] at k0 ⊢;obtain ⟨w3,rfl⟩:∃ x,x=W:=⟨_,rfl⟩;have hx3:Ext wq w3:=HXW.out;have HB3:=hid k0;have HI3:=hid (HI.out.ext hx3);have HX3:=hid (HX0.out.trans hx3);have hdr:=(Ext.refl w3).drew;obtain ⟨L,hL⟩:∃ L,cs.length=L:=⟨_,rfl⟩;have hcl':=HI3.out;rw [hL] at hcl';have HI4:=hid hcl';obtain ⟨fe9,hfe9⟩:∃ x,Q0g (cs.map fun x=>Q0f x 0 9)=x:=⟨_,rfl⟩
      obtain ⟨z0,hz0⟩:∃ x,decide (cs.length=0)=x:=⟨_,rfl⟩;obtain ⟨z6,hz6⟩:∃ x,decide (6 < cs.length)=x:=⟨_,rfl⟩;have hre:=HRE.out;rw [hz0,hz6,hfe9] at hre;have HCI:Hid (((L:Int) == 0)=z0):=hid (by rw [<- hz0,hL]; cases L <;> simp; omega)
      have HCJ:Hid (decide ((6:Int) < L)=z6):=hid (by rw [<- hz6,hL]; simp; omega)
      have HF9:=hid hfe9;rw [hL] at HB3 ⊢;have HFR:=hid (fun (W:World) (u:Value) (h:Q0d W u [Q0x z0 12,Q0x z6 5,fe9])=>first_any W u _ h);rw [<- hre] at HFR;clear k0 hx3 hgr e0 e1 HXW hL hcl' hfe9 hz0 hz6 hre;refine Flow.Q1o [.p,.w,.p,.p,.w,.p,.w,.p,.p,.w,.p,.w,.w,.w,.w,.w,.p] [0,1,2,3,4,5,6,7,8,9,10,11,12,13,14,15,16] [[],[0],[1],[2],[3],[],[5],[6],[7],[4,8],[],[10],[9,11],[12],[4,9,13],[13,14],[0,1,2,3,4,5,6,7,8,9,10,11,12,13,14,15]]
       [.c 0 (.pointer (some ⟨gr,0,none⟩)),.c 1 (.slice X L capx),.c 2 (.int .i64 ((L:Nat):Int)),.c 3 (.bool (z0)),.c 4 (.int .i64 (Q0x (z0) 12)),.c 5 (.pointer (some ⟨gr,0,none⟩)),.c 6 (.slice X L capx),.c 7 (.int .i64 ((L:Nat):Int)),.c 8 (.bool (z6)),.c 9 (.int .i64 (Q0x (z6) 5)),.c 10 (.pointer (some ⟨gr,0,none⟩)),.c 11 (.slice X L capx),⟨fun v wz=>(fun v w'=>Q0d w' (v 12) (cs.map fun x=>Q0f x 0 9)) v wz,by intro v a b hx h; exact Q0d.ext h hx⟩,.c 13 (.int .i64 (fe9)),⟨fun v wz=>(fun v w'=>Q0d w' (v 14) [Q0x (z0) 12,Q0x (z6) 5,fe9]) v wz,by intro v a b hx h; exact Q0d.ext h hx⟩,.c 15 (.int .i64 re),.c 16 (.int .i64 re)]
       (by kernel_rfl) rfl (by kernel_rfl) ⟨?g0,?g1,?g2,?g3,?g4,?g5,?g6,?g7,?g8,?g9,?g10,?g11,?g12,?g13,?g14,?g15,?g16,trivial⟩ ?post
      case g0 | g5 | g10=>
       intro v w1 hx;intro bb hbb;subst hbb;refine ⟨_,fun w=>?_,rfl⟩;go_simp
      case g1 | g6 | g11=>
       intro v w1 hx;(repeat intro (zq:v _=_));intro bb hbb;subst hbb;have n0:w1.cell? ⟨gr,0,none⟩=some (.slice X L capx):=(HB3.out.ext (hdr.trans hx)).cell 0;intro K hK;go_simp;exact hK _ _ (Ext.refl _) rfl
      case g2 | g7=>
       intro v w1 hx;(repeat intro (zq:v _=_));intro bb hbb;subst hbb;refine ⟨_,fun w=>?_,rfl⟩;go_simp
      case g3=>
       intro v w1 hx;(repeat intro (zq:v _=_));intro bb hbb;subst hbb;refine ⟨.bool z0,fun w=>?_,rfl⟩;go_simp;exact HCI.out
      case g4=>
       intro v w1 hx;(repeat intro (zq:v _=_));intro bb hbb;subst hbb;intro K hK;go_simp;refine Q0e (Q6f w1 (z0) 12) ?_;rintro e w2 ⟨rfl,rfl⟩;exact ⟨_,rfl,hK _ _ (Ext.refl _) rfl⟩
      case g8=>
       intro v w1 hx;(repeat intro (zq:v _=_));intro bb hbb;subst hbb;refine ⟨.bool z6,fun w=>?_,rfl⟩;go_simp;exact HCJ.out
      case g9=>
       intro v w1 hx;(repeat intro (zq:v _=_));intro bb hbb;subst hbb;intro K hK;go_simp;refine Q0e (Q6f w1 (z6) 5) ?_;rintro e w2 ⟨rfl,rfl⟩;exact ⟨_,rfl,hK _ _ (Ext.refl _) rfl⟩
      case g12=>
       intro v w1 hx;(repeat intro (zq:v _=_));intro bb hbb;subst hbb;intro K hK;go_simp;refine Q0e (Q7m w1 _ cs (HI4.out.ext (hdr.trans hx)) hcl) ?_;rintro e w2 ⟨x,rfl,h1,hx2⟩;exact ⟨_,rfl,hK _ _ hx2 h1⟩
      case g13=>
       intro v w1 hx (q12:(fun v w'=>Q0d w' (v 12) (cs.map fun x=>Q0f x 0 9)) v w1);intro bb hbb;subst hbb;intro K hK;go_simp;refine Q0e ((HF9.out ▸ first_any w1 _ _ q12)) ?_;rintro e w2 ⟨rfl,rfl⟩;exact ⟨_,rfl,hK _ _ (Ext.refl _) rfl⟩
      case g14=>
       intro v w1 hx;(repeat intro (zq:v _=_));intro bb hbb;subst hbb;intro K hK;go_simp;exact hK _ _ (Ext.box _ _) (Q3q (l:=[Q0x (z0) 12,Q0x (z6) 5,fe9]) (by simp))
      case g15=>
       intro v w1 hx (q13:v 13=_) (q14:(fun v w'=>Q0d w' (v 14) [Q0x (z0) 12,Q0x (z6) 5,fe9]) v w1);intro bb hbb;subst hbb;intro K hK;go_simp;refine Q0e (HFR.out w1 _ q14) ?_;rintro e w2 ⟨rfl,rfl⟩;exact ⟨_,rfl,hK _ _ (Ext.refl _) rfl⟩
      case g16=>
       intro v w1 hx (q0:v 0=_) (q1:v 1=_) (q2:v 2=_) (q3:v 3=_) (q4:v 4=_) (q5:v 5=_) (q6:v 6=_) (q7:v 7=_) (q8:v 8=_) (q9:v 9=_) (q10:v 10=_) (q11:v 11=_) _ (q13:v 13=_) _ (q15:v 15=_);intro bb hbb;subst hbb;refine ⟨_,fun w=>?_,rfl⟩;go_simp
      case post =>
       intro v w1 hx;(iterate 12 intro (zq:v _=_));intro (q12:(fun v w'=>Q0d w' (v 12) (cs.map fun x=>Q0f x 0 9)) v w1);(iterate 1 intro (zq:v _=_));intro (q14:(fun v w'=>Q0d w' (v 14) [Q0x (z0) 12,Q0x (z6) 5,fe9]) v w1);(iterate 2 intro (zq:v _=_));simp only [Flow.All,Flow.acts,Act.put];go_simp;have HX6:=hid (HX3.out.trans (hdr.trans hx));clear hx hdr q12 q14;(repeat clear zq)
       by_cases hr0:re=0
       . have hrb:(re != 0)=false:=by simp [hr0]
         have hd:=HDR.out;rw [if_pos hr0] at hd;clear hr0;go_wp2;go_roundw
         case rel=>exact ⟨k + 1,by omega,by go_num,by rw [<- hd]; exact HFE.out.symm,HX6.out⟩
         case measure=>simp [intOf]; omega
       . have hrb:(re != 0)=true:=by simp [hr0]
         have hd:=HDR.out;rw [if_neg hr0] at hd;have HD:=hid hd;clear hr0 hd;go_wp2;go_ret;exact ⟨by rw [<- HFE.out.symm,HD.out]; rfl,HX6.out⟩
    . have hkI:¬ (k:Int) < n:=by omega
      have hkn:k=n:=by omega
      have hz:Q0g (p.map Q5c)=0:=by rw [<- hfe,hkn,List.drop_eq_nil_of_le (by rw [HN.out]; omega)]; rfl
      have HZ:=hid hz;clear hfe hz;go_wp2;go_ret;exact ⟨by rw [HZ.out]; rfl,hx0⟩
end Go.Proofs
namespace Go.Proofs
open Go.RowKit Go.Tw Go.Flow
attribute [local go_sem] Oper.semAt_some
def Words (w:World):Prop:=w.cell? ⟨0,0,none⟩=some (.string ⟨#[111,112,101,110]⟩) /\ w.cell? ⟨0,1,none⟩=some (.string ⟨#[99,108,111,115,101]⟩)
theorem Words.ext {w w':World} (h:Words w) (hx:Ext w w'):Words w':=⟨hx.cell h.1,hx.cell h.2⟩
def X1o (c:Bool):ByteArray:=⟨(Z9y c).toArray⟩
def Z3q (l:List Int) (c:Bool):ByteArray:=X4m (l.map Q3x ++ [X1o c]) spS ++ nlS
theorem Y3a (c:UInt8):∀ l:List (List UInt8),Lib.join l [c]=glue c l
 | []=>rfl
 | [x]=>Lib.join_one x [c]
 | x :: y :: r=>by
   have ih:=Y3a c (y :: r);rw [Lib.join_cons] at ih ⊢;show x ++ (([c] ++ y) ++ Lib.joinTail [c] r)=x ++ c :: glue c (y :: r);rw [<- ih];simp
theorem Z5y {x:Int} (h0:0 <= x) (h9:x <= 9):(Q3x x).data.toList=[J0u x]:=by
 obtain ⟨n,rfl⟩:∃ n:Nat,x=n:=⟨x.toNat,by omega⟩
 have hn:n < 10:=by omega
 have key:∀ n:Nat,n < 10 -> (Q3x (n:Int)).data.toList=[J0u (n:Int)]:=by
  intro n hn;show (Lib.decDigits ((n:Int).toNat)).toArray.toList=_;rw [List.toList_toArray,Int.toNat_natCast,Lib.decDigits];simp [hn,J0u]
 exact key n hn
theorem line_text {r:Rul} (hd:∀ x ∈ r.classes,0 <= x /\ x <= 9):(Z3q r.classes r.close).data.toList=Q8v r ++ [10]:=by
 have e:(X4m (r.classes.map Q3x ++ [X1o r.close]) spS).data.toList=Q8v r:=by
  show (Lib.join ((r.classes.map Q3x ++ [X1o r.close]).map (·.data.toList)) [32]).toArray.toList=_;rw [List.toList_toArray,Y3a];unfold Q8v Y3e
  congr 1
  rw [List.map_append,List.map_map]
  congr 1
  exact List.map_congr_left fun x hx=>Z5y (hd x hx).1 (hd x hx).2
 unfold Z3q;rw [ByteArray.data_append,Array.toList_append,e];rfl
def Q7j (p:List Rul) (k:Nat):List UInt8:=textOf ((p.take k).map Q8v)
theorem Y5o {p:List Rul} {k:Nat} (hk:k < p.length):Q7j p (k + 1)=Q7j p k ++ (Q8v (p.getD k default) ++ [10]):=by
 unfold Q7j textOf;rw [List.take_succ_eq_append_getElem hk,Q0v _ hk,List.map_append,List.map_append,List.flatten_append];simp only [List.map_cons,List.map_nil,List.flatten_cons,List.flatten_nil,List.append_nil]
theorem Y8w (p:List Rul):Q7j p p.length=X9q p:=by unfold Q7j X9q; rw [List.take_length]
structure J1q (r:Rul):Prop where
 len:r.classes.length <= 6
 dig:∀ x ∈ r.classes,0 <= x /\ x <= 9
theorem Q4l {l:List Int} {m:Int} (h:Q0o l m=0):∀ x ∈ l,0 <= x /\ x <= m:=by
 unfold Q0o at h
 induction l with
 | nil=>intro x hx; cases hx
 | cons y l ih =>
   rw [List.map_cons,Q0r] at h
   by_cases hy:Q0f y 0 m=0
   . rw [if_pos hy] at h
     intro x hx
     rcases List.mem_cons.1 hx with rfl | hx
     . unfold Q0f at hy
       by_cases hc:x < 0 ∨ m < x
       . rw [if_pos hc] at hy; cases hy
       . omega
     . exact ih h x hx
   . rw [if_neg hy] at h; exact absurd h hy
theorem Y4j {l:List Int} (h:Q0g l=0):∀ x ∈ l,x=0:=by
 induction l with
 | nil=>intro x hx; cases hx
 | cons y l ih =>
   rw [Q0r] at h
   by_cases hy:y=0
   . rw [if_pos hy] at h
     intro x hx
     rcases List.mem_cons.1 hx with rfl | hx
     . exact hy
     . exact ih h x hx
   . rw [if_neg hy] at h; exact absurd h hy
theorem Y1x {p:List Rul} (h:Q6h p=0):p.length <= 48 /\ ∀ r ∈ p,J1q r:=by
 unfold Q6h at h
 by_cases h48:48 < p.length
 . rw [if_pos h48] at h; cases h
 . rw [if_neg h48] at h
   refine ⟨by omega,fun r hr=>?_⟩
   have h1:=Y4j h _ (List.mem_map_of_mem hr);unfold Q5c at h1
   by_cases h0:r.classes.length=0
   . rw [if_pos h0] at h1; cases h1
   . rw [if_neg h0] at h1
     by_cases h6:6 < r.classes.length
     . rw [if_pos h6] at h1; cases h1
     . rw [if_neg h6] at h1
       exact ⟨by omega,Q4l h1⟩
theorem Y9y {l:List Int} {c:Bool} (hl:l.length <= 6) (hd:∀ x ∈ l,0 <= x /\ x <= 9):(X4m (l.map Q3x ++ [X1o c]) spS).size <= 5000000:=by
 have h:=Z0k (xs:=l.map Q3x ++ [X1o c]) (sep:=spS) (B:=8) (by simp; omega) (fun x hx=>by
  rcases List.mem_append.1 hx with hx | hx
  . obtain ⟨y,hy,rfl⟩:=List.mem_map.1 hx
    have h1:=hd y hy;have:=X1j h1.1 (by omega:y < 100)
    omega
  . rw [List.mem_singleton.1 hx]; cases c <;> decide) (by decide)
 omega
theorem X2o {w w':World} {base n size B:Nat} {e:TypeId} {v:Value} {xs:List Value} {o:Obj} (hown:w.ownsRow base e size v n xs) (hg:(w.alloc o).grownBy w' v.ownBlock) (hb:B <= base) (hB:B <= w.heap.size):Below B w w' :=
 Below.grown ((Below.refl B w).alloc hB o) hg (by simp; omega) (fun k hk=>Nat.le_trans hb (hown.lt k hk).1)
def Y7y (p:List Rul):ByteArray:=if Q6h p=0 then Z6l p else emp
theorem Y8r (w:World) (v:Value) (p:List Rul) (hv:Q0w w v p) (hr:∀ r ∈ p,r.classes.length <= 4096) (hW:Words w) :
    Calls Tryz.prog 81 #[v] w fun e w'=>e=.returned (.tuple #[.string (Y7y p),.int .i64 (Q6h p)]) /\ Ext w w':=by
 obtain ⟨i0,hi,hz0,hz1,hz2⟩:=info_parts Tryz.X9e;obtain ⟨a,rfl,h2⟩:=hv;obtain ⟨A,cap,rfl,hl,hcap,hc⟩:=h2.opened;have H2:=hid h2;have HC:=hid hc;have HR:=hid hr;have HW:=hid hW;clear h2 hc hr hW;obtain ⟨n,hn⟩:∃ n,p.length=n:=⟨_,rfl⟩;have HN:=hid hn;rw [hn] at hl HC H2 ⊢;go_enter Tryz.func81,Tryz.ntmps81;go_wp2_with fail;change Calls _ _ _ (w.alloc (.cells #[.slice A n cap] 38)) _;obtain ⟨W,hWW,k0,HXW,eW⟩:=Q1t w 38 #[.slice A n cap];rw [hWW];clear hWW;have K0:=hid k0;refine (X6w W _ p ⟨_,rfl,H2.out.ext HXW.out⟩ HR.out).mono ?_;rintro e w5 ⟨rfl,hx5⟩;have HX5:=hid (HXW.out.trans hx5);have hk5:=k0.ext hx5;obtain ⟨gp,hgp⟩:∃ z,w.heap.size=z:=⟨_,rfl⟩;rw [hgp] at hk5 ⊢;clear k0 hx5 hgp eW
 by_cases he:Q6h p=0
 . have hfin:=Y1x he
   have HF:=hid hfin.2;have hn48:n <= 48:=by have:=hfin.1; omega
   have HPE:Hid (Y7y p=Z6l p):=hid (if_pos he);have HE:=hid he;obtain ⟨E,hE⟩:∃ E,Q6h p=E:=⟨_,rfl⟩;have hne:(E != 0)=false:=by rw [<- hE]; simp [he]
   rw [hE];have c5:(w5.alloc (.cells #[.pointer none,.slice none 0 0] 214)).cell? ⟨gp,0,none⟩=some (.slice A n cap):=(hk5.ext (Ext.box w5 _)).cell 0;have HEE:=hid hE;clear hk5 he hfin hE hn;go_wp2;have hbf:=Bld.fresh w5;have hxf:=Ext.box w5 (.cells #[.pointer none,.slice none 0 0] 214);obtain ⟨gb,hgb⟩:∃ z,w5.heap.size=z:=⟨_,rfl⟩;have HGB:=hid hgb;have hsf:(w5.alloc (.cells #[.pointer none,.slice none 0 0] 214)).heap.size=gb + 1:=by rw [<- hgb]; simp
   rw [hgb] at hbf ⊢;obtain ⟨wf,hwf⟩:∃ z,w5.alloc (.cells #[.pointer none,.slice none 0 0] 214)=z:=⟨_,rfl⟩;rw [hwf] at hbf hxf hsf ⊢;have HBF:=hid hbf;have HXF:=hid (HX5.out.trans hxf);have HSF:=hid hsf;have HGW:Hid (w.heap.size <= gb):=hid (by have:=HX5.out.size; omega)
   clear hbf hxf hsf hwf hgb c5
   go_loopw [18] (fun i wr=>∃ k:Nat,k <= n /\ i=.int .i64 k /\ Bld wr gb (Q7j p k) /\ Below gb wf wr /\ (Q7j p k).length <= k * 6000000) (fun i _=>n - (intOf i).toNat)
   case atStart=>exact ⟨0,Nat.zero_le _,rfl,HBF.out,Below.refl _ _,by simp [Q7j,textOf]⟩
   case round =>
    obtain ⟨k,hk,rfl,hbl,hlow,hlen⟩:=hrel
    by_cases hlt:k < n
    . have hkI:(k:Int) < n:=by omega
      have hxr:Ext w wr:=Below.trans HXF.out (hlow.mono HGW.out);obtain ⟨b,off,x,rfl,hb,e0,e1,hi0⟩:=HC.out k hlt;replace e0:=hxr.cell e0;replace e1:=hxr.cell e1;have hkp:k < p.length:=by rw [HN.out]; exact hlt
      have hfr:=HF.out (p.getD k default) (by rw [Q0v _ hkp]; exact List.getElem_mem hkp)
      have hts:=Y5o hkp;have hlt9:=line_text hfr.dig;obtain ⟨X,capx,rfl,-,-,-⟩:=hi0.opened;have HI:=hid (hi0.ext hxr);have HXR:=hid hxr;have HBL:=hid hbl;have HLOW:=hid hlow;have hwd:=HW.out.ext hxr;have hcl6:(Q0n p k).length <= 6:=hfr.len;have HDG:Hid (∀ x ∈ Q0n p k,0 <= x /\ x <= 9):=hid hfr.dig;have hlsz:=Y9y (c:=Q3p p k) hcl6 HDG.out;rw [<- hlt9] at hts;change Q7j p (k + 1)=Q7j p k ++ (Z3q (Q0n p k) (Q3p p k)).data.toList at hts;obtain ⟨cs,hcs⟩:∃ c,Q0n p k=c:=⟨_,rfl⟩;obtain ⟨cb,hcb⟩:∃ c,Q3p p k=c:=⟨_,rfl⟩;obtain ⟨tx,htx⟩:∃ c,Q7j p k=c:=⟨_,rfl⟩;rw [hcs] at e0 HI hcl6 HDG hlsz hts;rw [hcb] at e1 hlsz hts;rw [htx] at HBL hts hlen;have HTS:=hid hts;have HLSZ:=hid hlsz;obtain ⟨L,hL⟩:∃ L,cs.length=L:=⟨_,rfl⟩;have HLL:=hid hL;rw [hL] at e0 HI hcl6;clear hbl hlow hxr hi0 hfr hlt9 hcs hcb htx hts hlsz hL;obtain ⟨wq,rfl⟩:∃ X,X=wr:=⟨_,rfl⟩;cases cb with
      | false =>
        have hwx:=hwd.ext (Ext.box wq (.cells #[.slice X L capx,.bool false] 167));have w0:=hwx.1;have w9:=hwx.2;clear hwx;go_wp2_with fail;obtain ⟨W,hWW,k0,HXW,eW⟩:=Q1t wq 167 #[.slice X L capx,.bool false];rw [hWW];clear hWW;clear k0;refine (X4v W _ cs (HLL.out ▸ HI.out.ext HXW.out) (by rw [HLL.out]; omega) (fun x hx=>by have:=HDG.out x hx; omega)).mono ?_
        rintro e w3 ⟨u,rfl,hu,hx3⟩;have HX3:=hid (HXW.out.trans hx3);have HWW:=hid HXW.out.size;have hlm:(cs.map Q3x).length <= 6:=by rw [List.length_map,HLL.out]; exact hcl6
        have hb3:W.heap.size <= w3.heap.size:=hx3.size;clear w0 w9 e0 e1;go_wp2_with ((at_builtin; refine wpList_append_own _ rfl _ _ 157 rfl (W.heap.size) 9 i0 (.string emp) 1 16 Tryz.underlying157 hi hz0 hz1 hz2 rfl (by decide) _ _ _ rfl (World.ownsRow.alloc hu _) ⟨w3.heap.size,0,none⟩ 1 1 [.string ⟨#[111,112,101,110]⟩] rfl rfl ?_ ?_ ?_ ?_ ?_ ?_; exact Q4p _ _ _; (focus (simp [Value.oneCell'])); (focus (unfold maxLen; omega)); (focus omega); (focus (have:=hx3.size; simp at this ⊢; omega)); intro v' w1 hown' hgrow _); refine halted ?_)
        have hx4:Ext wq w1:=Below.trans HX3.out (X2o hu hgrow (Nat.le_trans HWW.out (Nat.le_refl _)) (Nat.le_trans HWW.out hb3));have hown4:Q0q w1 W.heap.size 9 .string v' (cs.map Q3x ++ [X1o false]):=Q0q.snoc hown';have hsz:∀ x ∈ cs.map Q3x ++ [X1o false],x.size <= 5000000:=by
         intro x hx
         rcases List.mem_append.1 hx with hx | hx
         . obtain ⟨y,hy,rfl⟩:=List.mem_map.1 hx
           have h1:=HDG.out y hy;have:=X1j h1.1 (by omega:y < 100)
           omega
         . rw [List.mem_singleton.1 hx]; decide
        have HJ:=hid (Y7l w1 W.heap.size v' _ spS hown4 (by have:=HLL.out; rw [List.length_append,List.length_map]; show cs.length + 1 <= _; omega) (by simp) hsz (by decide))
        have HX4:=hid hx4;have HLB:Hid (Z3q cs false=X4m (cs.map Q3x ++ [X1o false]) spS ++ nlS):=hid rfl;have hls:=HLSZ.out;obtain ⟨js,hjs⟩:∃ j,X4m (cs.map Q3x ++ [X1o false]) spS=j:=⟨_,rfl⟩;rw [hjs] at HJ HLB hls;have HJ':Hid (Calls Tryz.prog 149 #[v',.string ⟨#[32]⟩] w1 fun e w'=>e=.returned (.string js) /\ Ext w1 w'):=hid HJ.out;have hj2:¬ 9223372036854775807 < js.size + 1:=by omega
        have hj3:js.size + 1 <= 9223372036854775807:=by omega
        have hj4:js.size < 9223372036854775807:=by omega
        clear hown' hgrow hx4 hown4 hsz HJ hjs hu hx3 hb3 hlm;unfold Q1i;go_wp2_with (go_at_call 149; refine HJ'.out.mono ?_; rintro e w6 ⟨rfl,hx6⟩; refine halted ?_);have HX6:=hid (HX4.out.trans hx6);have HWS:=hid (write_any w6 gb tx (js ++ nlS) (HBL.out.ext HX6.out) (by rw [ByteArray.size_append]; have:nlS.size=1:=rfl; omega))
        have HWS':Hid (Calls Tryz.prog 148 #[.pointer (some ⟨gb,0,none⟩),.string (js ++ ⟨#[10]⟩)] w6 fun e w'=>e=.returned (.tuple #[.int .i64 ((js ++ nlS).size),.nilIface]) /\ Bld w' gb (tx ++ (js ++ nlS).data.toList) /\ Below gb w6 w'):=hid HWS.out;clear hx6 HWS;unfold Q1i;go_wp2_with (go_at_call 148; refine HWS'.out.mono ?_; rintro e w7 ⟨rfl,hb7,hx7⟩);go_roundw
        case rel=>exact ⟨k + 1,by omega,by go_num,by rw [HTS.out,HLB.out]; exact hb7,Below.trans HLOW.out (Below.trans (HX6.out.mono (by have:=HBL.out.lt; omega)) hx7),by rw [HTS.out,HLB.out,List.length_append,Array.length_toList]; show tx.length + (js ++ nlS).size <= _; rw [ByteArray.size_append]; have:nlS.size=1:=rfl; omega⟩
        case measure=>simp [intOf]; omega
      | true =>
        have hwx:=hwd.ext (Ext.box wq (.cells #[.slice X L capx,.bool true] 167));have w0:=hwx.1;have w9:=hwx.2;clear hwx;go_wp2_with fail;obtain ⟨W,hWW,k0,HXW,eW⟩:=Q1t wq 167 #[.slice X L capx,.bool true];rw [hWW];clear hWW;clear k0;refine (X4v W _ cs (HLL.out ▸ HI.out.ext HXW.out) (by rw [HLL.out]; omega) (fun x hx=>by have:=HDG.out x hx; omega)).mono ?_
        rintro e w3 ⟨u,rfl,hu,hx3⟩;have HX3:=hid (HXW.out.trans hx3);have HWW:=hid HXW.out.size;have hlm:(cs.map Q3x).length <= 6:=by rw [List.length_map,HLL.out]; exact hcl6
        have hb3:W.heap.size <= w3.heap.size:=hx3.size;clear w0 w9 e0 e1;go_wp2_with ((at_builtin; refine wpList_append_own _ rfl _ _ 157 rfl (W.heap.size) 9 i0 (.string emp) 1 16 Tryz.underlying157 hi hz0 hz1 hz2 rfl (by decide) _ _ _ rfl (World.ownsRow.alloc hu _) ⟨w3.heap.size,0,none⟩ 1 1 [.string ⟨#[99,108,111,115,101]⟩] rfl rfl ?_ ?_ ?_ ?_ ?_ ?_; exact Q4p _ _ _; (focus (simp [Value.oneCell'])); (focus (unfold maxLen; omega)); (focus omega); (focus (have:=hx3.size; simp at this ⊢; omega)); intro v' w1 hown' hgrow _); refine halted ?_)
        have hx4:Ext wq w1:=Below.trans HX3.out (X2o hu hgrow (Nat.le_trans HWW.out (Nat.le_refl _)) (Nat.le_trans HWW.out hb3));have hown4:Q0q w1 W.heap.size 9 .string v' (cs.map Q3x ++ [X1o true]):=Q0q.snoc hown';have hsz:∀ x ∈ cs.map Q3x ++ [X1o true],x.size <= 5000000:=by
         intro x hx
         rcases List.mem_append.1 hx with hx | hx
         . obtain ⟨y,hy,rfl⟩:=List.mem_map.1 hx
           have h1:=HDG.out y hy;have:=X1j h1.1 (by omega:y < 100)
           omega
         . rw [List.mem_singleton.1 hx]; decide
        have HJ:=hid (Y7l w1 W.heap.size v' _ spS hown4 (by have:=HLL.out; rw [List.length_append,List.length_map]; show cs.length + 1 <= _; omega) (by simp) hsz (by decide))
        have HX4:=hid hx4;have HLB:Hid (Z3q cs true=X4m (cs.map Q3x ++ [X1o true]) spS ++ nlS):=hid rfl;have hls:=HLSZ.out;obtain ⟨js,hjs⟩:∃ j,X4m (cs.map Q3x ++ [X1o true]) spS=j:=⟨_,rfl⟩;rw [hjs] at HJ HLB hls;have HJ':Hid (Calls Tryz.prog 149 #[v',.string ⟨#[32]⟩] w1 fun e w'=>e=.returned (.string js) /\ Ext w1 w'):=hid HJ.out;have hj2:¬ 9223372036854775807 < js.size + 1:=by omega
        have hj3:js.size + 1 <= 9223372036854775807:=by omega
        have hj4:js.size < 9223372036854775807:=by omega
        clear hown' hgrow hx4 hown4 hsz HJ hjs hu hx3 hb3 hlm;unfold Q1i;go_wp2_with (go_at_call 149; refine HJ'.out.mono ?_; rintro e w6 ⟨rfl,hx6⟩; refine halted ?_);have HX6:=hid (HX4.out.trans hx6);have HWS:=hid (write_any w6 gb tx (js ++ nlS) (HBL.out.ext HX6.out) (by rw [ByteArray.size_append]; have:nlS.size=1:=rfl; omega))
        have HWS':Hid (Calls Tryz.prog 148 #[.pointer (some ⟨gb,0,none⟩),.string (js ++ ⟨#[10]⟩)] w6 fun e w'=>e=.returned (.tuple #[.int .i64 ((js ++ nlS).size),.nilIface]) /\ Bld w' gb (tx ++ (js ++ nlS).data.toList) /\ Below gb w6 w'):=hid HWS.out;clear hx6 HWS;unfold Q1i;go_wp2_with (go_at_call 148; refine HWS'.out.mono ?_; rintro e w7 ⟨rfl,hb7,hx7⟩);go_roundw
        case rel=>exact ⟨k + 1,by omega,by go_num,by rw [HTS.out,HLB.out]; exact hb7,Below.trans HLOW.out (Below.trans (HX6.out.mono (by have:=HBL.out.lt; omega)) hx7),by rw [HTS.out,HLB.out,List.length_append,Array.length_toList]; show tx.length + (js ++ nlS).size <= _; rw [ByteArray.size_append]; have:nlS.size=1:=rfl; omega⟩
        case measure=>simp [intOf]; omega
    . have hkI:¬ (k:Int) < n:=by omega
      have hkn:k=n:=by omega
      subst hkn;have hta:Q7j p k=X9q p:=by rw [<- HN.out]; exact Y8w p
      rw [hta] at hbl;have HBS:=hid (Y5y wr gb _ hbl);have HXR:Hid (Ext w wr):=hid (Below.trans HXF.out (hlow.mono HGW.out));clear hbl hlow hta hlen;go_wp2_with (go_at_call 150; refine HBS.out.mono ?_; rintro e w7 ⟨rfl,hx7⟩);refine bodyPost_ret (results_tmp2 Tryz.results81 _ _ _) rfl ?_;exact ⟨by rw [HPE.out,<- HEE.out,HE.out]; rfl,Below.trans HXR.out (hx7.mono HGW.out)⟩
 . have hne:(Q6h p != 0)=true:=by simp [he]
   have HPE:Hid (Y7y p=emp):=hid (if_neg he);clear he hk5;go_wp2;refine bodyPost_ret (results_tmp2 Tryz.results81 _ _ _) rfl ?_;exact ⟨by rw [HPE.out]; rfl,HX5.out⟩
end Go.Proofs
namespace Go.Tw
set_option maxRecDepth 100000
theorem Z6i:Q0k.err=0:=by decide
theorem Z7h:Q0k.hist=[[0],[0,0],[0,1]]:=by decide
end Go.Tw
namespace Go.Proofs
open Go.RowKit Go.Tw Go.Flow
set_option maxRecDepth 100000
def rlA:List Rul:=X0i false true false
def rlB:List Rul:=X0i true true false
def Z1g:ByteArray:=⟨#[48,32,111,112,101,110,10,48,32,48,32,99,108,111,115,101,10,48,32,49,32,111,112,101,110,10]⟩
theorem Q1m:Q3k Q0k:=⟨by decide,by decide,fun i hi=>by
 have:i=0 ∨ i=1 ∨ i=2:=by simp [Q0k] at hi; omega
 rcases this with rfl | rfl | rfl <;> exact ⟨by decide,by decide,by decide,by decide⟩⟩
theorem Y2c:Q3k Q6d:=⟨by decide,by decide,fun i hi=>by
 have:i=0:=by simp [Q6d] at hi; omega
 subst this; exact ⟨by decide,by decide,by decide,by decide⟩⟩
theorem X2e:Q0k.hist.length <= 9:=by rw [Z7h]; decide
theorem J0q:Z4z Q0k=[[0],[0,0],[0,1]]:=by kernel_rfl
theorem Z2y:Q1g Q0k rlA=0:=by kernel_rfl
theorem Z6v:Q1g Q0k rlB=0:=by kernel_rfl
theorem Z7p:X1r Q0k rlA 0=0:=by kernel_rfl
theorem Z8k:Z5x Q0k rlA 0=[false,true]:=by kernel_rfl
theorem Z7v:Z4j Q0k rlA 0=[20,10]:=by kernel_rfl
theorem J0s:Y8s Q0k rlA=[0,2]:=by kernel_rfl
theorem Z4i:X6g Q0k rlA=⟨3,4⟩:=by kernel_rfl
theorem J0a:X0l Q0k rlA=2:=by kernel_rfl
theorem Z7w:Y7p Q0k rlB=34:=by kernel_rfl
theorem Z9m:Z5e Q0k=4:=by kernel_rfl
theorem J2f:X9c Q0k 4=(6,34,0):=by kernel_rfl
theorem J1h:Y1g Q0k 4=rlB:=by kernel_rfl
theorem J2h:X9c Q0k 3=(2,14,0):=by kernel_rfl
theorem J1z:X8t Q0k 0=[false,true]:=by kernel_rfl
theorem J1j:Y3d Q0k 0=0:=by kernel_rfl
theorem J1y:Y0a Q0k rlB=3:=by kernel_rfl
theorem J0i:Q7n Q0k 5=0:=by kernel_rfl
theorem Z9j:X1s Q0k 5=[⟨[0],2⟩,⟨[1,2],2⟩]:=by kernel_rfl
theorem J1v:X4a Q6d 0=1:=by kernel_rfl
theorem J1o:X5q Q6d 0=0:=by kernel_rfl
theorem J1a:Q6h rlA=0:=by kernel_rfl
theorem J1m:Y7y rlA=Z1g:=by kernel_rfl
theorem Z9f (w:World) (u:Value) (hu:Q0h w u Q0k) :
    Calls Tryz.prog 42 #[u] w fun e w'=>∃ x,e=.returned (.tuple #[x,.int .i64 0]) /\ Q2z w' x [[0],[0,0],[0,1]] /\ Ext w w':=by
 have h:=X6y w u Q0k hu Q1m;rw [Z6i,J0q] at h;exact h
theorem J0n (w:World) (u p:Value) (hu:Q0h w u Q0k) (hp:Q0w w p rlA) :
    Calls Tryz.prog 57 #[u,p,.int .i64 0] w fun e w'=>∃ x y,e=.returned (.tuple #[.agg #[x,y],.int .i64 0]) /\ Q1q w' x [false,true] /\ Q0d w' y [20,10] /\ Ext w w':=by
 refine (Z1f w u p Q0k rlA 0 hu hp Q1m (by decide)).mono ?_
 rintro e w' ⟨⟨x,y,rfl,h1,h2⟩,hx⟩;rw [Z8k] at h1;rw [Z7v] at h2;exact ⟨x,y,by rw [Z7p],h1,h2,hx⟩
theorem Z9t (w:World) (u p:Value) (hu:Q0h w u Q0k) (hp:Q0w w p rlA) :
    Calls Tryz.prog 33 #[u,p] w fun e w'=>∃ x,e=.returned (.tuple #[x,.int .i64 0]) /\ Q0d w' x [0,2] /\ Ext w w':=by
 have h:=X6i w u p Q0k rlA hu hp Q1m (by decide)
 rw [Z2y,J0s] at h;exact h
theorem Z6a (w:World) (u p:Value) (hu:Q0h w u Q0k) (hp:Q0w w p rlA) :
    Calls Tryz.prog 64 #[u,p] w fun e w'=>e=.returned (.tuple #[.agg #[.int .i64 3,.int .i64 4],.int .i64 0]) /\ Ext w w':=by
 have h:=Y1f w u p Q0k rlA hu hp Q1m (by decide)
 rw [Z2y,Z4i] at h;exact h
theorem Z9d (w:World) (u p:Value) (hu:Q0h w u Q0k) (hp:Q0w w p rlA) :
    Calls Tryz.prog 37 #[u,p] w fun e w'=>e=.returned (.tuple #[.int .i64 2,.int .i64 0]) /\ Ext w w':=by
 have h:=Y0j w u p Q0k rlA hu hp Q1m (by decide)
 rw [Z2y,J0a] at h;exact h
theorem Z8h (w:World) (u p:Value) (hu:Q0h w u Q0k) (hp:Q0w w p rlB) :
    Calls Tryz.prog 38 #[u,p] w fun e w'=>e=.returned (.tuple #[.int .i64 34,.int .i64 0]) /\ Ext w w':=by
 have h:=Z0h w u p Q0k rlB hu hp Q1m (by decide)
 rw [Z6v,Z7w] at h;exact h
theorem Z9r (w:World) (u:Value) (hu:Q0h w u Q0k) :
    Calls Tryz.prog 19 #[u] w fun e w'=>e=.returned (.tuple #[.int .i64 4,.int .i64 0]) /\ Ext w w':=by
 have h:=Z1m w u Q0k hu Q1m X2e;rw [Z6i,Z9m] at h;exact h
theorem Z7d (w:World) (u:Value) (hu:Q0h w u Q0k) :
    Calls Tryz.prog 21 #[u,.int .i64 4] w fun e w'=>∃ x,e=.returned (.tuple #[.agg #[x],.int .i64 6,.int .i64 34,.int .i64 0]) /\ Q3m w' x rlB /\ Ext w w':=by
 refine (Y1e w u Q0k 4 hu Q1m X2e).mono ?_;rintro e w' ⟨⟨x,rfl,h1⟩,hx⟩;exact ⟨x,by rw [J2f],by rw [J1h] at h1; exact h1,hx⟩
theorem Z7e (w:World) (u:Value) (hu:Q0h w u Q0k) :
    Calls Tryz.prog 21 #[u,.int .i64 3] w fun e w'=>∃ x,e=.returned (.tuple #[.agg #[x],.int .i64 2,.int .i64 14,.int .i64 0]) /\ Q3m w' x (Y1g Q0k 3) /\ Ext w w':=by
 refine (Y1e w u Q0k 3 hu Q1m X2e).mono ?_;rintro e w' ⟨⟨x,rfl,h1⟩,hx⟩;exact ⟨x,by rw [J2h],by exact h1,hx⟩
theorem Z8t (w:World) (u:Value) (hu:Q0h w u Q0k) :
    Calls Tryz.prog 50 #[u,.int .i64 0] w fun e w'=>∃ x,e=.returned (.tuple #[x,.int .i64 1,.int .i64 0]) /\ Q1q w' x [false,true] /\ Ext w w':=by
 have h:=Z0l w u Q0k 0 hu Q1m;rw [J1z,J1j] at h;exact h
theorem Z4h (w:World) (u p:Value) (hu:Q0h w u Q0k) (hp:Q0w w p rlB) :
    Calls Tryz.prog 65 #[u,p] w fun e w'=>e=.returned (.tuple #[.int .i64 3,.int .i64 0]) /\ Ext w w':=by
 have h:=Y5i w u p Q0k rlB hu hp Q1m (by decide)
 rw [Z6v,J1y] at h;exact h
theorem Z5m (w:World) (u:Value) (hu:Q0h w u Q0k) :
    Calls Tryz.prog 39 #[u,.int .i64 5] w fun e w'=>∃ x,e=.returned (.tuple #[x,.int .i64 0]) /\ Q4j w' x [⟨[0],2⟩,⟨[1,2],2⟩] /\ Ext w w':=by
 have h:=Y6j w u Q0k 5 hu Q1m;rw [J0i,Z9j] at h;exact h
theorem Z5g (w:World) (u:Value) (hu:Q0h w u Q6d) :
    Calls Tryz.prog 41 #[u,.int .i64 0] w fun e w'=>e=.returned (.tuple #[.int .i64 1,.int .i64 0]) /\ Ext w w':=by
 have h:=Y4y w u Q6d 0 hu Y2c;rw [J1v,J1o] at h;exact h
theorem Z7q (w:World) (p:Value) (hp:Q0w w p rlA) (hW:Words w) :
    Calls Tryz.prog 81 #[p] w fun e w'=>e=.returned (.tuple #[.string Z1g,.int .i64 0]) /\ Ext w w':=by
 have h:=Y8r w p rlA hp (by decide) hW
 rw [J1m,J1a] at h;exact h
theorem X5v (w:World) (u v:Value) (l:List Int) (hu:Q0d w u l) (hv:Q0d w v l) :
    Calls Tryz.prog 54 #[u,v] w fun e w'=>e=.returned (.bool true) /\ Ext w w':=by
 have h:=Q8i w u v _ _ hu hv;rw [decide_eq_true rfl] at h;exact h
theorem Z2d (w:World) (u v:Value) (l:List Bool) (hu:Q1q w u l) (hv:Q1q w v l) :
    Calls Tryz.prog 55 #[u,v] w fun e w'=>e=.returned (.bool true) /\ Ext w w':=by
 have h:=X9d w u v _ _ hu hv;rw [decide_eq_true rfl] at h;exact h
theorem Z7x (w:World) (u v:Value) (l:List Rul) (hu:Q0w w u l) (hv:Q0w w v l) :
    Calls Tryz.prog 48 #[u,v] w fun e w'=>e=.returned (.bool true) /\ Ext w w':=by
 have h:=X7h w u v _ _ hu hv;rw [show X5t l l=true from decide_eq_true rfl] at h
 exact h
theorem Z7s (w:World) (u v:Value) (l:List Grp) (hu:Q4j w u l) (hv:Q4j w v l) :
    Calls Tryz.prog 74 #[u,v] w fun e w'=>e=.returned (.bool true) /\ Ext w w':=by
 have h:=X6q w u v _ _ hu hv;rw [show X4d l l=true from decide_eq_true rfl] at h
 exact h
theorem Y3k {w:World} {g:Nat} {T:TypeId} {cs:Array Value} {l:List Bool} {n:Nat} (h:Blk w g T cs) (hc:cs=(l.map Value.bool).toArray) (hl:l.length=n) (hn:n <= 1000):Q1q w (.slice (some ⟨g,0,none⟩) n n) l:=by
 subst hc;refine X1x (k:=1) h hl hn (by simp [hl]) fun i hi=>?_
 show (List.map Value.bool l).toArray.getD (i * 1 + 0) undef=_;simp [hi]
theorem X9v (w:World):(binOp .neq 107 (.agg #[.int .i64 3,.int .i64 4]) (.agg #[.int .i64 3,.int .i64 4])).run Tryz.prog w=.ok (.bool false) w:=by kernel_rfl
theorem Z0p:Z1g.toList=[48,32,111,112,101,110,10,48,32,48,32,99,108,111,115,101,10,48,32,49,32,111,112,101,110,10]:=by simp [Z1g,go_sem]
theorem Z8q:(Z1g.toList == [48,32,111,112,101,110,10,48,32,48,32,99,108,111,115,101,10,48,32,49,32,111,112,101,110,10])=true:=by rw [Z0p]; decide
end Go.Proofs
