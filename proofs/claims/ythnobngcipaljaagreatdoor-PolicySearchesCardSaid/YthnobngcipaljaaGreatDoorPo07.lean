/- Contract of the reference: CheckSeason. Contracts of the program: mapped errors of numbers; ContainsFunc over members (CheckSeason's closure). Plain law: each plan is what the policy of its closed histories comes to, and no policy does better than all plans. Plain law: the same of all runners, class by class and tide by tide. Plain law: what runners come to is what the policy keeps, closes and delays. Plain law: the greatest weight and the best cost over the plans are those over all policies by their codes. Plain law: what PolicyBest says of the greatest weight, the best cost and the groups. Plain law: prefixes of closings; Q3s members; the first closings of a member alone. -/
import Derived.Test.YthnobngcipaljaaGreatDoorPo06
import Derived.Test.YthnobngcipaljaaGreatDoorPo03
import Derived.Test.YthnobngcipaljaaGreatDoorPo04
import Derived.Shelf.Abstract
import Derived.Test.YthnobngcipaljaaGreatDoorPo05
set_option maxRecDepth 1000000
set_option maxHeartbeats 64000000
set_option linter.unusedVariables false
set_option linter.unusedSimpArgs false
set_option linter.constructorNameAsVariable false
namespace Go.Proofs
open Go.RowKit Go.Tw Go.Flow
def Q3k (f:Nat -> Int) (n k:Nat):Int:=Q0j (((List.range n).map f).drop k)
theorem X1f {f:Nat -> Int} {n k:Nat} (hk:k < n):Q3k f n k = if f k = 0 then Q3k f n (k + 1) else f k:=by
 unfold Q3k;rw [List.drop_eq_getElem_cons (by simpa using hk),List.getElem_map,List.getElem_range]; rfl
theorem X4l {f:Nat -> Int} {n k:Nat} (hk:n <= k):Q3k f n k = 0:=by
 unfold Q3k;rw [List.drop_eq_nil_of_le (by simpa using hk)]; rfl
theorem Q8k:∀ {l:List Int} {m:Int},Q0p l m ≠ 0 -> Q0p l m = 3
 | [],m,h=>absurd rfl h
 | x :: l,m,h=>by
   rw [X0z] at h ⊢
   split at h
   . rename_i h0; rw [if_pos h0]; exact Q8k h
   . rename_i h0; rw [if_neg h0]; exact Q5z h0
theorem Y5t {s:Q0b} (h:Q0f s.limit 0 1024 ≠ 0):s.err = 3:=if_pos h
theorem Z0k {s:Q0b} (h:Q0f s.limit 0 1024 = 0) (h1:s.ships.length = 0):s.err = 12:=(if_neg (fun hn=>hn h)).trans (if_pos h1)
theorem Z0q {s:Q0b} (h:Q0f s.limit 0 1024 = 0) (h1:¬ s.ships.length = 0) (h2:6 < s.ships.length):s.err = 5:=(if_neg (fun hn=>hn h)).trans ((if_neg h1).trans (if_pos h2))
theorem Y5v {s:Q0b} (h:Q0f s.limit 0 1024 = 0) (h1:¬ s.ships.length = 0) (h2:¬ 6 < s.ships.length) (h3:Q0p s.ships 1000 ≠ 0):s.err = 3:=(if_neg (fun hn=>hn h)).trans ((if_neg h1).trans ((if_neg h2).trans (if_pos h3)))
theorem X7g {s:Q0b} (h:Q0f s.limit 0 1024 = 0) (h1:¬ s.ships.length = 0) (h2:¬ 6 < s.ships.length) (h3:Q0p s.ships 1000 = 0) :
    s.err = if s.members.length = 0 then 12 else if 8 < s.members.length then 5 else Q3k s.Q2s s.members.length 0:=(if_neg (fun hn=>hn h)).trans ((if_neg h1).trans ((if_neg h2).trans (if_neg (fun hn=>hn h3))))
theorem X5k (w:World) (v:Value) (s:Q0b) (hv:Q0h w v s) :
    Calls Tryz.prog 16 #[v] w fun e w'=>e = .returned (.int .i64 s.err) /\ Ext w w':=by
 obtain ⟨a,b,rfl,h2⟩:=hv;obtain ⟨A,capa,rfl,hla,-,-⟩:=h2.ships.opened;obtain ⟨B,capb,rfl,hlb,-,-⟩:=h2.members.opened;have H2:=Lib.hid h2;clear h2;have HEL:=Lib.hid (Y5t (s:=s));have HEN:=Lib.hid (Z0k (s:=s));have HEM:=Lib.hid (Z0q (s:=s));have HED:=Lib.hid (Y5v (s:=s));have HES:=Lib.hid (X7g (s:=s));go_enter Tryz.func16,Tryz.ntmps16;go_wp2_with fail;change Calls _ _ _ (w.alloc (.cells #[.int .i64 s.limit,.slice A s.ships.length capa,.slice B s.members.length capb] 25)) _;obtain ⟨W,hWW,k0,HXW,eW⟩:=Q1q w 25 #[.int .i64 s.limit,.slice A s.ships.length capa,.slice B s.members.length capb];rw [hWW];clear hWW;have K0:=Lib.hid k0;have c0_0:=k0.cell 0;have c0_1:=k0.cell 1;have c0_2:=k0.cell 2;simp only [Go.Tw.gA,Go.Tw.gB,Go.Tw.gC] at c0_0 c0_1 c0_2;clear k0;refine (Q2b _ s.limit 0 1024).mono ?_;rintro e w' ⟨rfl,rfl⟩
 by_cases h0:Q0f s.limit 0 1024 ≠ 0
 . have h0b:(Q0f s.limit 0 1024 != 0) = true:=by simp [h0]
   have HR:Hid (s.err = Q0f s.limit 0 1024):=Lib.hid (by rw [HEL.out h0,Q5z h0])
   clear h0;go_wp2;go_ret;exact ⟨Q1f HR.out.symm,HXW.out⟩
 replace h0:=Decidable.not_not.1 h0;have h0b:(Q0f s.limit 0 1024 != 0) = false:=by simp [h0]
 have HZ0:=Lib.hid h0;clear h0
 by_cases h1:s.ships.length = 0
 . have h1b:((s.ships.length:Int) == 0) = true:=by rw [h1]; rfl
   have HR:=Lib.hid (HEN.out HZ0.out h1);clear h1;go_wp2;go_ret;exact ⟨Q1f HR.out.symm,HXW.out⟩
 have h1b:((s.ships.length:Int) == 0) = false:=by rw [beq_eq_false_iff_ne]; omega
 have HZ1:=Lib.hid h1;clear h1
 by_cases h6:6 < s.ships.length
 . have h6b:(6:Int) < s.ships.length:=by omega
   have HR:=Lib.hid (HEM.out HZ0.out HZ1.out h6);clear h6;go_wp2;go_ret;exact ⟨Q1f HR.out.symm,HXW.out⟩
 have h6b:¬ (6:Int) < s.ships.length:=by omega
 have HZ6:=Lib.hid h6;clear h6;go_wp2_with fail;refine (Q6k _ _ s.ships 1000 (H2.out.ships.ext HXW.out)).mono ?_;rintro e w1 ⟨rfl,hx1⟩;replace c0_0:=hx1.cell c0_0;replace c0_1:=hx1.cell c0_1;replace c0_2:=hx1.cell c0_2;have HX1:=Lib.hid (HXW.out.trans hx1);clear hx1
 by_cases h3:Q0p s.ships 1000 ≠ 0
 . have h3b:(Q0p s.ships 1000 != 0) = true:=by simp [h3]
   have HR:Hid (s.err = Q0p s.ships 1000):=Lib.hid (by rw [HED.out HZ0.out HZ1.out HZ6.out h3,Q8k h3])
   clear h3;go_wp2;go_ret;exact ⟨Q1f HR.out.symm,HX1.out⟩
 replace h3:=Decidable.not_not.1 h3;have h3b:(Q0p s.ships 1000 != 0) = false:=by simp [h3]
 have HREST:=Lib.hid (HES.out HZ0.out HZ1.out HZ6.out h3);clear h3
 by_cases h4:s.members.length = 0
 . have h4b:((s.members.length:Int) == 0) = true:=by rw [h4]; rfl
   have HR:Hid (s.err = 12):=Lib.hid (by rw [HREST.out,if_pos h4])
   clear h4;go_wp2;go_ret;exact ⟨Q1f HR.out.symm,HX1.out⟩
 have h4b:((s.members.length:Int) == 0) = false:=by rw [beq_eq_false_iff_ne]; omega
 by_cases h8:8 < s.members.length
 . have h8b:(8:Int) < s.members.length:=by omega
   have HR:Hid (s.err = 5):=Lib.hid (by rw [HREST.out,if_neg h4,if_pos h8])
   clear h4 h8;go_wp2;go_ret;exact ⟨Q1f HR.out.symm,HX1.out⟩
 have h8b:¬ (8:Int) < s.members.length:=by omega
 have HE:Hid (s.err = Q3k s.Q2s s.members.length 0):=Lib.hid (by rw [HREST.out,if_neg h4,if_neg h8])
 clear h4 h8 HREST HEL HEN HEM HED HES;go_wp2_with fail
 go_loopw [5] (fun i wr=>∃ k:Nat,k <= s.members.length /\ i = .int .i64 k /\ Q3k s.Q2s s.members.length k = Q3k s.Q2s s.members.length 0 /\ Ext w1 wr) (fun i _=>s.members.length - (intOf i).toNat)
 case atStart=>exact ⟨0,Nat.zero_le _,rfl,rfl,Ext.refl _⟩
 case round =>
  obtain ⟨k,hk,rfl,hr,hx⟩:=hrel;have HR:=Lib.hid hr;have HX:=Lib.hid hx;replace c0_0:=hx.cell c0_0;replace c0_1:=hx.cell c0_1;replace c0_2:=hx.cell c0_2;clear hr hx
  by_cases hlt:k < s.members.length
  . have hltI:(k:Int) < (s.members.length:Int):=by omega
    have HST:=Lib.hid (X1f (f:=s.Q2s) hlt);have HCM:=Lib.hid (X5u wr _ s k ⟨_,_,rfl,H2.out.ext (HX1.out.trans HX.out)⟩ hlt)
    go_light
    go_wp2_with fail;refine HCM.out.mono ?_;rintro e w2 ⟨rfl,hx2⟩;have HX2:=Lib.hid (HX.out.trans hx2);clear hx2 c0_0 c0_1 c0_2
    by_cases he:s.Q2s k = 0
    . have heb:(s.Q2s k != 0) = false:=by simp [he]
      have HZ:=Lib.hid he;clear he;go_wp2;go_roundw
      case rel=>exact ⟨k + 1,by omega,by go_num,by rw [<- HR.out,HST.out,if_pos HZ.out],HX2.out⟩
      case measure=>simp [intOf]; omega
    . have heb:(s.Q2s k != 0) = true:=by simp [he]
      have HZ:=Lib.hid he;clear he;go_wp2;go_ret;exact ⟨Q1f (by rw [HE.out,<- HR.out,HST.out,if_neg HZ.out]),HX1.out.trans HX2.out⟩
  . have hltI:¬ (k:Int) < (s.members.length:Int):=by omega
    go_wp2;go_ret;exact ⟨Q1f (by rw [HE.out,<- HR.out,X4l (by omega)]),HX1.out.trans HX.out⟩
end Go.Proofs
namespace Go.Proofs
open Go.RowKit Go.Tw Go.Flow
theorem Tryz.Z5p:(Tryz.prog.info? 29).map (fun i=>(i.zero,i.size,i.bytes)) = some (some (.int .i64 0),1,8):=by kernel_rfl
theorem Z4a (f:Int -> Int) (l:List Int) {k:Nat} (hk:k < l.length):(l.map f).take k ++ [f (ix l k)] = (l.map f).take (k + 1):=by
 rw [List.take_succ_eq_append_getElem (by simpa using hk),Q4w hk]
 simp
theorem Q7i (w:World) (v:Value) (l:List Int) (g:Nat) (f:Int -> Int) (hv:Q0d w v l) (hle:l.length <= 4096) (eg:∀ args w,(callFunc g args).run Tryz.prog w = .ok (.enter g args) w)
    (hf:∀ W x,Calls Tryz.prog g #[.int .i64 x] W fun e W'=>e = .returned (.int .i64 (f x)) /\ W = W') :
    Calls Tryz.prog 120 #[v,.func (.func g) #[] #[]] w fun e w'=>∃ x,e = .returned x /\ Q0d w' x (l.map f) /\ Ext w w':=by
 obtain ⟨i0,hi,hz0,hz1,hz2⟩:=info_parts Tryz.Z5p;obtain ⟨A,cap,rfl,hl,hcap,hc⟩:=hv.opened;have HC:=Lib.hid hc;have HF:=Lib.hid hf;clear hv hc hf;go_enter Tryz.func120,Tryz.ntmps120;go_wp2
 go_loopw [5,10] (fun o i wr=>∃ (k:Nat),k <= l.length /\ i = .int .i64 k /\ Q0t wr w.heap.size 29 (.int .i64) o ((l.map f).take k) /\ Ext w wr) (fun _ i _=>l.length - (intOf i).toNat)
 case atStart=>exact ⟨0,Nat.zero_le _,rfl,Q0t.nil _ _ _ _,Ext.refl _⟩
 case round =>
  obtain ⟨k,hk,rfl,hown,hx⟩:=hrel;have hlen:((l.map f).take k).length = k:=by rw [List.length_take,List.length_map]; omega
  by_cases hlt:k < l.length
  . obtain ⟨b,off,rfl,hcell⟩:=HC.out k hlt
    have HTK:=Lib.hid (Z4a f l hlt);obtain ⟨s,hs⟩:∃ s,ix l k = s:=⟨_,rfl⟩;have HFS:=Lib.hid (HF.out wr s);rw [hs] at hcell HTK;obtain ⟨y,hy⟩:∃ y,f s = y:=⟨_,rfl⟩;rw [hy] at HFS HTK;replace hcell:=hx.cell hcell;have hll:((l.map f).take k).length <= 4096:=by omega
    clear hs hlen hy;go_wp2_with (first | (refine HFS.out.mono ?_; rintro e w9 ⟨rfl,rfl⟩) | (at_builtin; refine wpList_append_own _ rfl _ _ 191 rfl (w.heap.size) 29 i0 (.int .i64 0) 1 8 Tryz.underlying191 hi hz0 hz1 hz2 rfl (by decide) _ _ _ rfl (World.ownsRow.alloc hown _) ⟨wr.heap.size,0,none⟩ 1 1 [.int .i64 y] rfl rfl ?_ ?_ ?_ ?_ ?_ ?_; exact Q4b _ _ _; (focus (simp [Value.oneCell'])); (focus (unfold maxLen; omega)); (focus omega); (focus (have:=hx.size; simp at this ⊢; omega)); intro v' w1 hown' hgrow _))
    have hx':=Q2l hx hown (Nat.le_refl _) hgrow;go_wp2;go_roundw
    case rel=>exact ⟨k + 1,by omega,by go_num,by rw [<- HTK.out]; exact Q0t.snoc hown',hx'⟩
    case measure=>simp [intOf]; omega
  . have HE:Hid ((l.map f).take k = l.map f):=Lib.hid (by rw [List.take_of_length_le (by rw [List.length_map]; omega)])
    rw [HE.out] at hown;have HOWN:=Lib.hid hown;clear hown hlen;go_wp2;go_ret;exact ⟨_,rfl,HOWN.out.ints (by simp; omega),hx⟩
theorem Q7v (w:World) (v:Value) (l:List Int) (hv:Q0d w v l) (hle:l.length <= 4096) :
    Calls Tryz.prog 120 #[v,.func (.func 118) #[] #[]] w fun e w'=>∃ x,e = .returned x /\ Q0d w' x (l.map fun x=>Q0f x 0 1024) /\ Ext w w' :=
 Q7i w v l _ _ hv hle (enters_of Tryz.func118 (by kernel_rfl) rfl) (fun W x=>Q9e W x)
theorem X6t (w:World) (v:Value) (l:List Int) (hv:Q0d w v l) (hle:l.length <= 4096) :
    Calls Tryz.prog 120 #[v,.func (.func 121) #[] #[]] w fun e w'=>∃ x,e = .returned x /\ Q0d w' x (l.map fun x=>Q0f x 0 1000) /\ Ext w w' :=
 Q7i w v l _ _ hv hle (enters_of Tryz.func121 (by kernel_rfl) rfl) (fun W x=>X9w W x)
theorem Q8p (w:World) (v:Value) (l:List Int) (hv:Q0d w v l) (hle:l.length <= 4096) :
    Calls Tryz.prog 120 #[v,.func (.func 126) #[] #[]] w fun e w'=>∃ x,e = .returned x /\ Q0d w' x (l.map fun x=>Q0f x 0 9) /\ Ext w w' :=
 Q7i w v l _ _ hv hle (enters_of Tryz.func126 (by kernel_rfl) rfl) (fun W x=>X9o W x)
theorem Y6y (W:World) (nm s:ByteArray) (c1 c2 c3 c4:Value) (B:Nat) (hB:W.cell? ⟨B,0,none⟩ = some (.string s)) :
    Calls Tryz.prog 123 #[.agg #[.string nm,c1,c2,c3,c4],.pointer (some ⟨B,0,none⟩)] W fun e W'=>e = .returned (.bool (nm == s)) /\ Ext W W':=by
 obtain ⟨q,hq⟩:∃ q,(nm.toList == s.toList) = q:=⟨_,rfl⟩;have HQ:Hid ((nm == s) = q):=Lib.hid (by rw [Go.beq_toListBytes]; exact hq)
 have hx:=Ext.box W (.cells #[.string nm,c1,c2,c3,c4] 69);have hB2:=hx.cell hB;have k0:=Blk.made W 69 #[.string nm,c1,c2,c3,c4];have c0:=k0.cell 0;simp only [Go.Tw.gA,Go.Tw.gB] at c0;clear hB k0;go_enter Tryz.func123,Tryz.ntmps123;go_wp2;go_ret;exact ⟨Q0s HQ.out.symm,hx⟩
theorem X7t (w:World) (l:List Mem) (n:Nat) (A:Option Addr) (cap B:Nat) (s:ByteArray) (hB:w.cell? ⟨B,0,none⟩ = some (.string s)) (hn:n <= 17592186043904)
    (hc:∀ k,k < n -> ∃ b off c1 c2 c3 c4,A = some ⟨b,off,none⟩ /\ w.cell? ⟨b,off + k * 5,none⟩ = some (.string (Q1k l k)) /\ w.cell? ⟨b,off + k * 5 + 1,none⟩ = some c1 /\ w.cell? ⟨b,off + k * 5 + 2,none⟩ = some c2 /\ w.cell? ⟨b,off + k * 5 + 3,none⟩ = some c3 /\ w.cell? ⟨b,off + k * 5 + 4,none⟩ = some c4) :
    Calls Tryz.prog 172 #[.slice A n cap,.func (.func 123) #[] #[.pointer (some ⟨B,0,none⟩)]] w fun e w'=>∃ r:Int,e = .returned (.int .i64 r) /\ decide (0 <= r) = ((List.range n).any fun k=>Q1k l k == s) /\ Ext w w':=by
 have HC:=Lib.hid hc;obtain ⟨p,hp⟩:∃ p:Nat -> Bool,(fun k=>Q1k l k == s) = p:=⟨_,rfl⟩
 have HP:Hid (∀ k,(Q1k l k == s) = p k):=Lib.hid (fun k=>by rw [<- hp])
 rw [hp];clear hc hp;go_enter Tryz.func172,Tryz.ntmps172;go_wp2
 go_loopw [8] (fun i wr=>∃ k:Nat,k <= n /\ i = .int .i64 k /\ ((List.range n).drop k).any p = (List.range n).any p /\ Ext w wr) (fun i _=>n - (intOf i).toNat)
 case atStart=>exact ⟨0,Nat.zero_le _,rfl,rfl,Ext.refl _⟩
 case round =>
  obtain ⟨k,hk,rfl,hr,hx⟩:=hrel;have HR:=Lib.hid hr; clear hr
  by_cases hlt:k < n
  . obtain ⟨b,off,c1,c2,c3,c4,rfl,e0,e1,e2,e3,e4⟩:=HC.out k hlt
    replace e0:=hx.cell e0;replace e1:=hx.cell e1;replace e2:=hx.cell e2;replace e3:=hx.cell e3;replace e4:=hx.cell e4;have hB2:=hx.cell hB;have HST:Hid ((List.range n).any p = (p k || ((List.range n).drop (k + 1)).any p)):=Lib.hid (by
     rw [<- HR.out,List.drop_eq_getElem_cons (by simpa using hlt),List.any_cons,List.getElem_range])
    have HPK:=Lib.hid (HP.out k);obtain ⟨nm,hnm⟩:∃ x,Q1k l k = x:=⟨_,rfl⟩;rw [hnm] at HPK e0;have HCL:=Lib.hid (Y6y wr nm s c1 c2 c3 c4 B hB2);rw [HPK.out] at HCL;obtain ⟨q,hq⟩:∃ q,p k = q:=⟨_,rfl⟩;rw [hq] at HCL HST;clear hq hnm hB2;cases q with
    | true =>
      go_wp2_with (refine HCL.out.mono ?_; rintro e w9 ⟨rfl,hx9⟩);go_ret;exact ⟨k,rfl,by rw [HST.out]; simp,hx.trans hx9⟩
    | false =>
      go_wp2_with (refine HCL.out.mono ?_; rintro e w9 ⟨rfl,hx9⟩);go_roundw
      case rel=>exact ⟨k + 1,by omega,by go_num,by rw [HST.out,Bool.false_or],hx.trans hx9⟩
      case measure=>simp [intOf]; omega
  . go_wp2
    go_ret;exact ⟨-1,rfl,by rw [<- HR.out,List.drop_eq_nil_of_le (by simp; omega)]; rfl,hx⟩
theorem Z1g (w:World) (l:List Mem) (n:Nat) (A:Option Addr) (cap B:Nat) (s:ByteArray) (hB:w.cell? ⟨B,0,none⟩ = some (.string s)) (hn:n <= 17592186043904)
    (hc:∀ k,k < n -> ∃ b off c1 c2 c3 c4,A = some ⟨b,off,none⟩ /\ w.cell? ⟨b,off + k * 5,none⟩ = some (.string (Q1k l k)) /\ w.cell? ⟨b,off + k * 5 + 1,none⟩ = some c1 /\ w.cell? ⟨b,off + k * 5 + 2,none⟩ = some c2 /\ w.cell? ⟨b,off + k * 5 + 3,none⟩ = some c3 /\ w.cell? ⟨b,off + k * 5 + 4,none⟩ = some c4) :
    Calls Tryz.prog 122 #[.slice A n cap,.func (.func 123) #[] #[.pointer (some ⟨B,0,none⟩)]] w fun e w'=>e = .returned (.bool ((List.range n).any fun k=>Q1k l k == s)) /\ Ext w w':=by
 have HI:=Lib.hid (X7t w l n A cap B s hB hn hc);obtain ⟨q,hq⟩:∃ q,((List.range n).any fun k=>Q1k l k == s) = q:=⟨_,rfl⟩
 rw [hq] at HI ⊢;clear hc hq hB;go_enter Tryz.func122,Tryz.ntmps122;go_wp2_with (go_at_call 172; refine HI.out.mono ?_; rintro e w' ⟨r,rfl,hr,hx⟩; have HR:=Lib.hid hr; clear hr);go_ret;exact ⟨Q0s HR.out,hx⟩
end Go.Proofs
namespace Go.Tw
variable {s:Q0b}
theorem Z7n {i t u:Nat} (h:t < u):ix (hs s i u) t = ix (Q0c s.members i) t:=by
 unfold ix hs; simp [List.getD_eq_getElem?_getD,h]
theorem Z5w (hf:Fine s) {i u:Nat} (hi:i < s.members.length) (hu:u <= s.ships.length):(hs s i u).length = u:=by
 have:=(hf.shaped i hi).1;simp only [hs,List.length_take]; omega
theorem key_eq (hf:Fine s) {i j u v:Nat} (hi:i < s.members.length) (hj:j < s.members.length) (h:Q5x (hs s i u) = Q5x (hs s j v)):hs s i u = hs s j v :=
 Y9g (Q4r (hf.digits i hi) u) (Q4r (hf.digits j hj) v) h
theorem Y1d (hf:Fine s) {i j u v:Nat} (hi:i < s.members.length) (hj:j < s.members.length) (hu:u <= s.ships.length) (hv:v <= s.ships.length) (h:u ≠ v):Q5x (hs s i u) ≠ Q5x (hs s j v):=by
 intro e;have:=congrArg List.length (key_eq hf hi hj e);rw [Z5w hf hi hu,Z5w hf hj hv] at this;exact h this
theorem Y5r (hf:Fine s) {i j u v t:Nat} (hi:i < s.members.length) (hj:j < s.members.length) (hu:t < u) (hv:t < v) (h:ix (Q0c s.members i) t ≠ ix (Q0c s.members j) t):Q5x (hs s i u) ≠ Q5x (hs s j v):=by
 intro e;have:=congrArg (fun l=>ix l t) (key_eq hf hi hj e);simp only [Z7n hu,Z7n hv] at this;exact h this
def Q6x (s:Q0b) (t:Nat) (l:List Runner):Prop:=∀ r ∈ l,∀ q ∈ l,hs s r.member t = hs s q.member t
theorem Q8h (hf:Fine s) {t c:Nat} {l:List Runner} (hk:Known s l) (ht:t < s.ships.length) (h:Q6x s t l):Q6x s (t + 1) (Q6z s t c l):=by
 intro r hr q hq;obtain ⟨hr1,hr2⟩:=List.mem_filter.1 hr;obtain ⟨hq1,hq2⟩:=List.mem_filter.1 hq;have e:=h r hr1 q hq1;simp only [beq_iff_eq] at hr2 hq2;have l1:=(hf.shaped _ (hk r hr1)).1;have l2:=(hf.shaped _ (hk q hq1)).1;unfold hs at e ⊢;rw [List.take_add_one,List.take_add_one,e,List.getElem?_eq_getElem (by omega),List.getElem?_eq_getElem (by omega)]
 rw [Q4w (by omega)] at hr2 hq2
 rw [hr2,hq2]
theorem Q2w {t:Nat} {c:Bool} {l:List Runner} (h:Known s l):Known s (moved s t c l):=by
 intro r hr;obtain ⟨q,hq,rfl⟩:=List.mem_map.1 hr;exact h q hq
theorem Q3f {t u:Nat} {c:Bool} {l:List Runner} (h:Q6x s u l):Q6x s u (moved s t c l):=by
 intro r hr q hq;obtain ⟨r',hr',rfl⟩:=List.mem_map.1 hr;obtain ⟨q',hq',rfl⟩:=List.mem_map.1 hq;exact h r' hr' q' hq'
theorem Q7e {t c:Nat} {l:List Runner} (h:Known s l):Known s (Q6z s t c l):=fun r hr=>h r (List.mem_filter.1 hr).1
theorem X5w {f:List Int -> Bool} {k:Nat} {c:Bool}:∀ {l:List Runner},(∀ r ∈ l,f (hs s r.member (s.ships.length - k)) = c) ->
    Z3b s f (k + 1) l = Z3b s f k (moved s (s.ships.length - (k + 1)) c l) /\
    Y7h s f (k + 1) l = (if c then Q5i s l else 0) + Y7h s f k (moved s (s.ships.length - (k + 1)) c l) /\
    Y8l s f (k + 1) l = (if c then Q5i s l * ix s.ships (s.ships.length - (k + 1)) else 0) + Y8l s f k (moved s (s.ships.length - (k + 1)) c l)
 | [],_=>by cases c <;> simp [Z3b,Y7h,Y8l,moved,Q5i]
 | r :: l,h=>by
   obtain ⟨h1,h2,h3⟩:=X5w (l:=l) fun r hr=>h r (List.mem_cons_of_mem _ hr)
   have e:=h r List.mem_cons_self;unfold Z3b at h1 ⊢; unfold Y7h at h2 ⊢; unfold Y8l at h3 ⊢;rw [Y2d] at h1 h2 h3 ⊢;simp only [List.map_cons,List.sum_cons,Q5i] at h1 h2 h3 ⊢;rw [h1,h2,h3];simp only [J1m,J1e,J0z,e,mv1];refine ⟨rfl,?_,?_⟩
   . cases c
     . simp
     . simp only [if_true]; rw [Int.mul_add]; omega
   . cases c
     . simp
     . simp only [if_true]; rw [Int.mul_add,Int.add_mul]; omega
def Sound (s:Q0b) (t k:Nat) (l:List Runner) (x:Plan):Prop :=
 Keys s x.closed t l /\ ∀ f,Agr s f x.closed t l -> Z3b s f k l = x.weight /\ Y7h s f k l = x.closings /\ Y8l s f k l = x.delay
def Covers (s:Q0b) (f:List Int -> Bool) (k:Nat) (l:List Runner) (x:Plan):Prop:=Z3b s f k l <= x.weight /\ x.closings <= Y7h s f k l /\ x.delay <= Y8l s f k l
instance lawB:LawfulBEq ByteArray where
 eq_of_beq {a b} h:=by
  by_cases e:a = b
  . exact e
  . rw [X2j e] at h; exact absurd h (by simp)
 rfl {a}:=str_eq rfl
theorem X4x (a b:List ByteArray) (k:ByteArray):(a ++ b).contains k = (a.contains k || b.contains k):=by simp
theorem Q7p {a:List ByteArray} {k:ByteArray} (h:∀ b ∈ a,b ≠ k):a.contains k = false:=by
 rw [<- Bool.not_eq_true,List.contains_iff_mem]; exact fun hk=>h k hk rfl
theorem Y4c (hf:Fine s) {k:Nat} (hk:k + 1 <= s.ships.length) {sub:List Runner -> List Plan}
    (ih:∀ l,Known s l -> Q6x s (s.ships.length - k) l -> ∀ x ∈ sub l,Sound s (s.ships.length - k) k l x) {l:List Runner} (hl:Known s l) (hn:l ≠ [])
    (hs':Q6x s (s.ships.length - k) l) {x:Plan} (hx:x ∈ Q3p s (s.ships.length - (k + 1)) sub l):Sound s (s.ships.length - (k + 1)) (k + 1) l x:=by
 have e1:s.ships.length - (k + 1) + 1 = s.ships.length - k:=by omega
 rcases List.mem_append.1 (X6l hx) with h | h
 . obtain ⟨h1,h2⟩:=ih _ (Q2w hl) (Q3f hs') x h
   refine ⟨fun b hb=>?_,fun f hA=>?_⟩
   . obtain ⟨r,hr,u,hu,hu2,e⟩:=h1 b hb
     obtain ⟨q,hq,rfl⟩:=List.mem_map.1 hr;exact ⟨q,hq,u,by omega,hu2,e⟩
   . have hc:∀ r ∈ l,f (hs s r.member (s.ships.length - k)) = false:=by
      intro r hr;rw [hA r hr _ (by omega) (by omega)]
      refine Q7p fun b hb=>?_;obtain ⟨q,hq,u,hu,hu2,e⟩:=h1 b hb;rw [e];exact Y1d hf (Q2w hl q hq) (hl r hr) hu2 (by omega) (by omega)
     obtain ⟨v1,v2,v3⟩:=X5w hc;obtain ⟨w1,w2,w3⟩:=h2 f fun r hr u hu hu2=>by
      obtain ⟨q,hq,rfl⟩:=List.mem_map.1 hr;exact hA q hq u (by omega) hu2
     rw [v1,v2,v3,w1,w2,w3];simp
 . obtain ⟨y,hy,rfl⟩:=List.mem_map.1 h
   obtain ⟨h1,h2⟩:=ih _ (Q2w hl) (Q3f hs') y hy;obtain ⟨r0,l0,rfl⟩:∃ r0 l0,l = r0 :: l0:=by cases l with | nil=>exact absurd rfl hn | cons a b=>exact ⟨a,b,rfl⟩
   have hh:Y6u s (s.ships.length - (k + 1)) (r0 :: l0) = Q5x (hs s r0.member (s.ships.length - k)):=by rw [Y6u,hs,e1]
   refine ⟨fun b hb=>?_,fun f hA=>?_⟩
   . rcases List.mem_append.1 (show b ∈ y.closed ++ [_] from hb) with hb | hb
     . obtain ⟨r,hr,u,hu,hu2,e⟩:=h1 b hb
       obtain ⟨q,hq,rfl⟩:=List.mem_map.1 hr;exact ⟨q,hq,u,by omega,hu2,e⟩
     . rw [List.mem_singleton] at hb
       exact ⟨r0,List.mem_cons_self,s.ships.length - k,by omega,by omega,hb.trans hh⟩
   . have hA':∀ r ∈ r0 :: l0,∀ u,s.ships.length - (k + 1) < u -> u <= s.ships.length -> f (hs s r.member u) = (y.closed.contains (Q5x (hs s r.member u)) || [Y6u s (s.ships.length - (k + 1)) (r0 :: l0)].contains (Q5x (hs s r.member u))) :=
      fun r hr u hu hu2=>(hA r hr u hu hu2).trans (X4x _ _ _)
     have hc:∀ r ∈ r0 :: l0,f (hs s r.member (s.ships.length - k)) = true:=by
      intro r hr;rw [hA' r hr _ (by omega) (by omega),hh,hs' r hr r0 List.mem_cons_self]
      simp
     obtain ⟨v1,v2,v3⟩:=X5w hc;obtain ⟨w1,w2,w3⟩:=h2 f fun r hr u hu hu2=>by
      obtain ⟨q,hq,rfl⟩:=List.mem_map.1 hr;have:=hA' q hq u (by omega) hu2
      rw [hh,Q7p (a:=[_]) (fun b hb=>by rw [List.mem_singleton] at hb; rw [hb]; exact Y1d hf (hl r0 List.mem_cons_self) (hl q hq) (by omega) hu2 (by omega)),Bool.or_false] at this
      exact this
     rw [v1,v2,v3,w1,w2,w3];simp only [if_true,Y0y];refine ⟨trivial,?_,?_⟩ <;> omega
theorem Y1m {k:Nat} {sub:List Runner -> List Plan} {f:List Int -> Bool}
    (ih:∀ l,Known s l -> Q6x s (s.ships.length - k) l -> ∃ x ∈ sub l,Covers s f k l x) {l:List Runner} (hl:Known s l) (hn:l ≠ [])
    (hs':Q6x s (s.ships.length - k) l):∃ x ∈ Q3p s (s.ships.length - (k + 1)) sub l,Covers s f (k + 1) l x:=by
 obtain ⟨r0,hr0⟩:=List.exists_mem_of_ne_nil l hn;have hc:∀ r ∈ l,f (hs s r.member (s.ships.length - k)) = f (hs s r0.member (s.ships.length - k)):=fun r hr=>by rw [hs' r hr r0 hr0]
 obtain ⟨v1,v2,v3⟩:=X5w hc;obtain ⟨x,hx,c1,c2,c3⟩:=ih (moved s (s.ships.length - (k + 1)) (f (hs s r0.member (s.ships.length - k))) l) (Q2w hl) (Q3f hs');cases hb:f (hs s r0.member (s.ships.length - k))
 . rw [hb] at v1 v2 v3 hx c1 c2 c3
   obtain ⟨o,ho,hob⟩:=X0p (l:=sub (moved s (s.ships.length - (k + 1)) false l) ++ (sub (moved s (s.ships.length - (k + 1)) true l)).map (Y0y s (s.ships.length - (k + 1)) l)) (List.mem_append.2 (.inl hx));rw [Q8x] at hob;simp only [Bool.false_eq_true,if_false] at v2 v3;exact ⟨o,ho,by omega,by omega,by omega⟩
 . rw [hb] at v1 v2 v3 hx c1 c2 c3
   obtain ⟨o,ho,hob⟩:=X0p (l:=sub (moved s (s.ships.length - (k + 1)) false l) ++ (sub (moved s (s.ships.length - (k + 1)) true l)).map (Y0y s (s.ships.length - (k + 1)) l)) (List.mem_append.2 (.inr (List.mem_map.2 ⟨x,hx,rfl⟩)));rw [Q8x] at hob;simp only [if_true] at v2 v3;simp only [Y0y] at hob;exact ⟨o,ho,by omega,by omega,by omega⟩
end Go.Tw
namespace Go.Tw
variable {s:Q0b}
def X4m (s:Q0b) (t c:Nat) (l:List Runner):List Runner:=l.filter fun x=>decide (ix (Q0c s.members x.member) t < (c:Int))
theorem Q8z {t c:Nat} {l:List Runner} {r:Runner}:r ∈ X4m s t c l ↔ r ∈ l /\ ix (Q0c s.members r.member) t < (c:Int):=by simp [X4m]
theorem X8i {t c:Nat} {l:List Runner} {r:Runner}:r ∈ Q6z s t c l ↔ r ∈ l /\ ix (Q0c s.members r.member) t = (c:Int):=by simp [Q6z]
theorem X8s {t c:Nat} {l:List Runner} {r:Runner} (h:r ∈ X4m s t c l):r ∈ X4m s t (c + 1) l:=by
 rw [Q8z] at h ⊢; exact ⟨h.1,by have:=h.2; omega⟩
theorem Y7n {t c:Nat} {l:List Runner} {r:Runner} (h:r ∈ Q6z s t c l):r ∈ X4m s t (c + 1) l:=by
 rw [X8i] at h; rw [Q8z]; exact ⟨h.1,by have:=h.2; omega⟩
theorem Q7n (t c:Nat) (g:Runner -> Int):∀ l:List Runner,((X4m s t (c + 1) l).map g).sum = ((X4m s t c l).map g).sum + ((Q6z s t c l).map g).sum
 | []=>rfl
 | x :: l=>by
   have ih:=Q7n t c g l;unfold X4m Q6z at ih ⊢;simp only [List.filter_cons]
   by_cases h1:ix (Q0c s.members x.member) t < (c:Int)
   . have h2:ix (Q0c s.members x.member) t < ((c + 1:Nat):Int):=by omega
     have h3:(ix (Q0c s.members x.member) t == (c:Int)) = false:=by simp; omega
     simp only [h1,h2,h3,decide_true,if_true,Bool.false_eq_true,if_false,List.map_cons,List.sum_cons]; omega
   . by_cases h4:ix (Q0c s.members x.member) t = (c:Int)
     . have h2:ix (Q0c s.members x.member) t < ((c + 1:Nat):Int):=by omega
       have h3:(ix (Q0c s.members x.member) t == (c:Int)) = true:=by simp [h4]
       simp only [h1,h2,h3,decide_true,decide_false,if_true,Bool.false_eq_true,if_false,List.map_cons,List.sum_cons]; omega
     . have h2:¬ ix (Q0c s.members x.member) t < ((c + 1:Nat):Int):=by omega
       have h3:(ix (Q0c s.members x.member) t == (c:Int)) = false:=by simp [h4]
       simp only [h1,h2,h3,decide_false,Bool.false_eq_true,if_false]; exact ih
theorem Z0d (hf:Fine s) {i t:Nat} (hi:i < s.members.length) (ht:t < s.ships.length):0 <= ix (Q0c s.members i) t /\ ix (Q0c s.members i) t <= 9:=by
 have h:=(hf.shaped i hi).1;rw [Q4w (by omega)]; exact hf.digits i hi _ (List.getElem_mem _)
theorem Y2z (hf:Fine s) {t:Nat} {l:List Runner} (hl:Known s l) (ht:t < s.ships.length):X4m s t 0 l = []:=by
 rw [X4m,List.filter_eq_nil_iff];intro r hr;have:=(Z0d hf (hl r hr) ht).1;simp only [decide_eq_true_eq]; omega
theorem Y8y (hf:Fine s) {t:Nat} {l:List Runner} (hl:Known s l) (ht:t < s.ships.length):X4m s t 10 l = l:=by
 rw [X4m,List.filter_eq_self];intro r hr;have:=(Z0d hf (hl r hr) ht).2;simp only [decide_eq_true_eq]; omega
theorem X0x (hf:Fine s) {k:Nat} (hk:k + 1 <= s.ships.length) {sub:List Runner -> List Plan}
    (ih:∀ l,Known s l -> Q6x s (s.ships.length - k) l -> ∀ x ∈ sub l,Sound s (s.ships.length - k) k l x) {l:List Runner} (hl:Known s l)
    (hs':Q6x s (s.ships.length - (k + 1)) l):∀ (c:Nat) (x:Plan),x ∈ Q1z s (s.ships.length - (k + 1)) sub l c ->
     Sound s (s.ships.length - (k + 1)) (k + 1) (X4m s (s.ships.length - (k + 1)) c l) x
 | 0,x,hx=>by
   rw [Q1z,List.mem_singleton] at hx;subst hx;rw [Y2z hf hl (by omega)]
   exact ⟨fun b hb=>absurd hb (by simp),fun f _=>⟨rfl,rfl,rfl⟩⟩
 | c + 1,x,hx=>by
   have e1:s.ships.length - (k + 1) + 1 = s.ships.length - k:=by omega
   rw [Q1z] at hx
   split at hx
   . rename_i hn
     obtain ⟨h1,h2⟩:=X0x hf hk ih hl hs' c x hx;refine ⟨fun b hb=>?_,fun f hA=>?_⟩
     . obtain ⟨r,hr,u,hu⟩:=h1 b hb
       exact ⟨r,X8s hr,u,hu⟩
     . obtain ⟨w1,w2,w3⟩:=h2 f fun r hr=>hA r (X8s hr)
       unfold Z3b at w1 ⊢; unfold Y7h at w2 ⊢; unfold Y8l at w3 ⊢;rw [Q7n,Q7n,Q7n,hn,w1,w2,w3];simp
   . rename_i hn
     obtain ⟨y,hy,z,hz,rfl⟩:=X5d hx;obtain ⟨h1,h2⟩:=X0x hf hk ih hl hs' c y hy;obtain ⟨g1,g2⟩:=Y4c hf hk ih (Q7e hl) hn (e1 ▸ Q8h hf hl (by omega) hs') hz
     refine ⟨fun b hb=>?_,fun f hA=>?_⟩
     . rcases List.mem_append.1 (show b ∈ y.closed ++ z.closed from hb) with hb | hb
       . obtain ⟨r,hr,u,hu⟩:=h1 b hb
         exact ⟨r,X8s hr,u,hu⟩
       . obtain ⟨r,hr,u,hu⟩:=g1 b hb
         exact ⟨r,Y7n hr,u,hu⟩
     . have hA':∀ r ∈ X4m s (s.ships.length - (k + 1)) (c + 1) l,∀ u,s.ships.length - (k + 1) < u -> u <= s.ships.length -> f (hs s r.member u) = (y.closed.contains (Q5x (hs s r.member u)) || z.closed.contains (Q5x (hs s r.member u))) :=
        fun r hr u hu hu2=>(hA r hr u hu hu2).trans (X4x _ _ _)
       obtain ⟨w1,w2,w3⟩:=h2 f fun r hr u hu hu2=>by
        have hr':=Q8z.1 hr;rw [hA' r (X8s hr) u hu hu2,Q7p (a:=z.closed),Bool.or_false];intro b hb;obtain ⟨q,hq,v,hv,hv2,e⟩:=g1 b hb;have hq':=X8i.1 hq;rw [e]; exact Y5r hf (hl q hq'.1) (hl r hr'.1) hv hu (by have:=hr'.2; have:=hq'.2; omega)
       obtain ⟨v1,v2,v3⟩:=g2 f fun r hr u hu hu2=>by
        have hr':=X8i.1 hr;rw [hA' r (Y7n hr) u hu hu2,Q7p (a:=y.closed),Bool.false_or];intro b hb;obtain ⟨q,hq,v,hv,hv2,e⟩:=h1 b hb;have hq':=Q8z.1 hq;rw [e]; exact Y5r hf (hl q hq'.1) (hl r hr'.1) hv hu (by have:=hr'.2; have:=hq'.2; omega)
       unfold Z3b at w1 v1 ⊢; unfold Y7h at w2 v2 ⊢; unfold Y8l at w3 v3 ⊢;rw [Q7n,Q7n,Q7n,w1,w2,w3,v1,v2,v3];exact ⟨rfl,rfl,rfl⟩
theorem X4v (hf:Fine s) {k:Nat} (hk:k + 1 <= s.ships.length) {sub:List Runner -> List Plan} {f:List Int -> Bool}
    (ih:∀ l,Known s l -> Q6x s (s.ships.length - k) l -> ∃ x ∈ sub l,Covers s f k l x) {l:List Runner} (hl:Known s l)
    (hs':Q6x s (s.ships.length - (k + 1)) l):∀ c:Nat,∃ x ∈ Q1z s (s.ships.length - (k + 1)) sub l c,Covers s f (k + 1) (X4m s (s.ships.length - (k + 1)) c l) x
 | 0=>by
   rw [Y2z hf hl (by omega)]
   exact ⟨_,List.mem_singleton.2 rfl,Int.le_refl 0,Int.le_refl 0,Int.le_refl 0⟩
 | c + 1=>by
   have e1:s.ships.length - (k + 1) + 1 = s.ships.length - k:=by omega
   obtain ⟨y,hy,y1,y2,y3⟩:=X4v hf hk ih hl hs' c;rw [Q1z];unfold Covers;unfold Z3b at y1 ⊢; unfold Y7h at y2 ⊢; unfold Y8l at y3 ⊢;simp only [Q7n]
   split
   . rename_i hn
     refine ⟨y,hy,?_⟩;rw [hn];simp only [List.map_nil,List.sum_nil];exact ⟨by omega,by omega,by omega⟩
   . rename_i hn
     obtain ⟨z,hz,z1,z2,z3⟩:=Y1m ih (Q7e (c:=c) hl) hn (e1 ▸ Q8h hf hl (by omega) hs')
     obtain ⟨o,ho,hob⟩:=X9l hy hz;rw [Q8x] at hob;simp only [both] at hob;unfold Z3b at z1; unfold Y7h at z2; unfold Y8l at z3;exact ⟨o,ho,by omega,by omega,by omega⟩
theorem X2b {α:Type}:∀ l:List α,(l.map fun _=>(0:Int)).sum = 0
 | []=>rfl
 | _ :: l=>by rw [List.map_cons,List.sum_cons,X2b l]; rfl
theorem X7f (hf:Fine s):∀ k,k <= s.ships.length -> ∀ l,Known s l -> Q6x s (s.ships.length - k) l -> ∀ x ∈ Q1y s k l,Sound s (s.ships.length - k) k l x
 | 0,_,l,_,_,x,hx=>by
   rw [Q1y,List.mem_singleton] at hx;subst hx;refine ⟨fun b hb=>absurd hb (by simp),fun f _=>⟨rfl,?_,?_⟩⟩
   . unfold Y7h J1e; simp [X2b]
   . unfold Y8l J0z; simp [X2b]
 | k + 1,hk,l,hl,hs',x,hx=>by
   have:=X0x hf hk (X7f hf k (by omega)) hl hs' 10 x hx
   rwa [Y8y hf hl (by omega)] at this
theorem X4t (hf:Fine s) (f:List Int -> Bool):∀ k,k <= s.ships.length -> ∀ l,Known s l -> Q6x s (s.ships.length - k) l -> ∃ x ∈ Q1y s k l,Covers s f k l x
 | 0,_,l,_,_=>by
   refine ⟨_,List.mem_singleton.2 rfl,Int.le_refl _,?_,?_⟩
   . unfold Y7h J1e; simp [X2b]
   . unfold Y8l J0z; simp [X2b]
 | k + 1,hk,l,hl,hs'=>by
   have:=X4v hf hk (X4t hf f k (by omega)) hl hs' 10
   rwa [Y8y hf hl (by omega)] at this
def Y1y (s:Q0b):List Runner:=(List.range s.members.length).map fun i=>⟨i,0,true⟩
theorem Q7c:Known s (Y1y s):=by
 intro r hr;obtain ⟨i,hi,rfl⟩:=List.mem_map.1 hr;exact List.mem_range.1 hi
theorem Q8e:Q6x s (s.ships.length - s.ships.length) (Y1y s):=by
 intro r _ q _;rw [Nat.sub_self]; simp [hs]
theorem Y7i (hf:Fine s) {x:Plan} (hx:x ∈ Q2m s) (f:List Int -> Bool) (h:∀ i,i < s.members.length -> ∀ u,0 < u -> u <= s.ships.length -> f (hs s i u) = x.closed.contains (Q5x (hs s i u))) :
    Z3b s f s.ships.length (Y1y s) = x.weight /\ Y7h s f s.ships.length (Y1y s) = x.closings /\ Y8l s f s.ships.length (Y1y s) = x.delay :=
 (X7f hf _ (Nat.le_refl _) _ Q7c Q8e x hx).2 f fun r hr u hu hu2=>h _ (Q7c r hr) u (by omega) hu2
theorem Y7z (hf:Fine s) (f:List Int -> Bool):∃ x ∈ Q2m s,Covers s f s.ships.length (Y1y s) x:=X4t hf f _ (Nat.le_refl _) _ Q7c Q8e
end Go.Tw
namespace Go.Tw
variable {s:Q0b}
theorem X0e {α:Type} (p:α -> Bool) (g:α -> Int):∀ l:List α,(l.map fun x=>if p x = true then g x else 0).sum = ((l.filter p).map g).sum
 | []=>rfl
 | x :: l=>by
   rw [List.map_cons,List.sum_cons,X0e p g l,List.filter_cons];cases h:p x <;> simp
theorem X0g {α β:Type} (d:α) (g:α -> β) (l:List α):l.map g = (List.range l.length).map fun i=>g (l.getD i d):=by
 apply List.ext_getElem (by simp)
 intro i h1 h2;simp only [List.length_map] at h1;simp [h1]
theorem Y0u (k:Nat):List.range (k + 1) = 0 :: (List.range k).map (· + 1):=List.range_succ_eq_map
def Z4r (s:Q0b) (f:List Int -> Bool) (i:Nat):List Bool:=(List.range s.ships.length).map fun t=>f (hs s i (t + 1))
theorem Z7l (f:List Int -> Bool) (i k:Nat) (hk:k + 1 <= s.ships.length) :
    (Z4r s f i).drop (s.ships.length - (k + 1)) = f (hs s i (s.ships.length - k)) :: (Z4r s f i).drop (s.ships.length - k):=by
 have h:s.ships.length - (k + 1) < (Z4r s f i).length:=by simp [Z4r]; omega
 rw [List.drop_eq_getElem_cons h];have e:s.ships.length - (k + 1) + 1 = s.ships.length - k:=by omega
 rw [e]
 congr 1
 simp only [Z4r,List.getElem_map,List.getElem_range,e]
theorem Z3m (f:List Int -> Bool):∀ k,k <= s.ships.length -> ∀ x:Runner,J1m s f k x =
    (x.dry && !(((Q1l s x.member).Q1w (s.ships.length - k) x.level ((Z4r s f x.member).drop (s.ships.length - k))).any fun y=>decide (s.limit < y)))
 | 0,_,x=>by
   rw [J1m,Nat.sub_zero,List.drop_of_length_le (by simp [Z4r])]
   simp [Mem.Q1w]
 | k + 1,hk,x=>by
   rw [J1m,Z3m f k (by omega),Z7l f _ k hk]
   have e:s.ships.length - (k + 1) + 1 = s.ships.length - k:=by omega
   simp only [mv1,Mem.Q1w,List.any_cons,e];generalize ((Q1l s x.member).stepT (s.ships.length - (k + 1)) x.level (f (hs s x.member (s.ships.length - k)))).1 = pk
   by_cases h:pk <= s.limit
   . have h':¬ s.limit < pk:=by omega
     simp [h,h']
   . have h':s.limit < pk:=by omega
     simp [h,h']
theorem Z3p (f:List Int -> Bool) (i:Nat):∀ k,k <= s.ships.length -> J1e s f k i = ((List.range k).map fun j=>if f (hs s i (s.ships.length - k + j + 1)) then (1:Int) else 0).sum
 | 0,_=>rfl
 | k + 1,hk=>by
   rw [J1e,Z3p f i k (by omega),Y0u,List.map_cons,List.sum_cons,List.map_map]
   have e:s.ships.length - (k + 1) + 0 + 1 = s.ships.length - k:=by omega
   rw [e]
   congr 2
   apply List.map_congr_left
   intro j _;have e2:s.ships.length - (k + 1) + (j + 1) + 1 = s.ships.length - k + j + 1:=by omega
   simp only [Function.comp,e2]
theorem Z6c (f:List Int -> Bool) (i:Nat):∀ k,k <= s.ships.length -> J0z s f k i = ((List.range k).map fun j=>if f (hs s i (s.ships.length - k + j + 1)) then ix s.ships (s.ships.length - k + j) else 0).sum
 | 0,_=>rfl
 | k + 1,hk=>by
   rw [J0z,Z6c f i k (by omega),Y0u,List.map_cons,List.sum_cons,List.map_map]
   have e:s.ships.length - (k + 1) + 0 + 1 = s.ships.length - k:=by omega
   rw [e,Nat.add_zero]
   congr 2
   apply List.map_congr_left
   intro j _;have e3:s.ships.length - (k + 1) + (j + 1) = s.ships.length - k + j:=by omega
   simp only [Function.comp,e3]
theorem count_map (g:Nat -> Bool):∀ n:Nat,countB ((List.range n).map g) = ((List.range n).map fun j=>if g j then (1:Int) else 0).sum:=by
 have go:∀ l:List Nat,countB (l.map g) = (l.map fun j=>if g j then (1:Int) else 0).sum:=by
  intro l
  induction l with
  | nil=>rfl
  | cons a l ih =>
    unfold countB at ih ⊢;rw [List.map_cons,List.map_cons,List.sum_cons,<- ih,List.countP_cons];cases h:g a
    . simp
    . simp; omega
 intro n; exact go _
theorem Q8v (hf:Fine s) (p:List Rul) {i:Nat} (hi:i < s.members.length):Q0o p (Q1l s i).classes = Z4r s (look p) i:=by
 have h:=(hf.shaped i hi).1;unfold Q0o Z4r hs;show (List.range (Q0c s.members i).length).map _ = _;rw [h]; rfl
theorem Z7i (hf:Fine s) (p:List Rul):Z3b s (look p) s.ships.length (Y1y s) = Q2e s (Q3r s p):=by
 unfold Z3b Y1y Q2e Q3r;rw [List.map_map,List.map_map,<- X0e]
 congr 1
 apply List.map_congr_left
 intro i hi;have hi':=List.mem_range.1 hi;simp only [Function.comp];rw [Z3m _ _ (Nat.le_refl _),Q8v hf p hi'];simp only [Nat.sub_self,List.drop_zero,Bool.true_and,Mem.keeps,Mem.Q3e];rfl
theorem Y6r (hf:Fine s) (p:List Rul):Y7h s (look p) s.ships.length (Y1y s) = Q5f s p:=by
 unfold Y7h Y1y Q5f;rw [List.map_map,X0g default _ s.members]
 congr 1
 apply List.map_congr_left
 intro i hi;have hi':=List.mem_range.1 hi;simp only [Function.comp];have:=Q8v hf p hi';unfold Q1l at this;rw [Z3p _ _ _ (Nat.le_refl _),this,Z4r,count_map];simp only [Nat.sub_self,Nat.zero_add];rfl
theorem Z5y (hf:Fine s) (p:List Rul):Y8l s (look p) s.ships.length (Y1y s) = X4u s p:=by
 unfold Y8l Y1y X4u;rw [List.map_map,X0g default _ s.members]
 congr 1
 apply List.map_congr_left
 intro i hi;have hi':=List.mem_range.1 hi;simp only [Function.comp];have:=Q8v hf p hi';unfold Q1l at this;rw [Z6c _ _ _ (Nat.le_refl _),this];unfold Q6i Z4r;simp only [Nat.sub_self,Nat.zero_add,List.length_map,List.length_range];show Q0k s.members i * _ = _ * _
 congr 2
 apply List.map_congr_left
 intro t ht;have ht':=List.mem_range.1 ht;simp [ht']
end Go.Tw
namespace Go.Tw
variable {s:Q0b}
def pick (need:Int) (b:Option (Int × Int)) (w c d:Int):Option (Int × Int) :=
 if w < need then b else match b with
 | none=>some (c,d)
 | some (x,y)=>if c < x ∨ c = x /\ d < y then some (c,d) else some (x,y)
theorem Y9h (g:List Int -> Bool) (h:List Int):∀ l:List (List Int),h ∈ l -> look (l.map fun x=>⟨x,g x⟩) h = g h
 | [],hh=>absurd hh (by simp)
 | x :: l,hh=>by
   by_cases e:x = h
   . subst e; simp [look]
   . have:=Y9h g h l ((List.mem_cons.1 hh).resolve_left (Ne.symm e))
     unfold look at this ⊢;rw [List.map_cons,List.find?_cons];simp only [show (x == h) = false by simp [e]]
     exact this
theorem Z4x {i u:Nat} (hi:i < s.members.length) (h0:0 < u) (hu:u <= s.ships.length):hs s i u ∈ s.hist :=
 (Q0b.Q4v _ _).2 ⟨u - 1,by omega,i,hi,by rw [hs,Nat.sub_add_cancel h0]⟩
theorem Z8n (hf:Fine s) {x:Plan} (hx:x ∈ Q2m s):Q2e s (Q3r s (X9u s x)) = x.weight /\ Q5f s (X9u s x) = x.closings /\ X4u s (X9u s x) = x.delay:=by
 rw [<- Z7i hf,<- Y6r hf,<- Z5y hf];exact Y7i hf hx _ fun i hi u h0 hu=>Y9h _ _ _ (Z4x hi h0 hu)
def Best (need:Int) (l:List (Int × Int × Int)) (r:Option (Int × Int)):Prop:=match r with
 | none=>∀ t ∈ l,t.1 < need
 | some (a,b)=>(∃ t ∈ l,need <= t.1 /\ t.2.1 = a /\ t.2.2 = b) /\ ∀ t ∈ l,need <= t.1 -> a < t.2.1 ∨ a = t.2.1 /\ b <= t.2.2
theorem Z3o {need:Int} {l:List (Int × Int × Int)} {r:Option (Int × Int)} (h:Best need l r) (w c d:Int):Best need (l ++ [(w,c,d)]) (pick need r w c d):=by
 unfold pick
 by_cases hw:w < need
 . rw [if_pos hw]
   cases r with
   | none => intro t ht; rcases List.mem_append.1 ht with e | e
             . exact h t e
             . rw [List.mem_singleton] at e; subst e; exact hw
   | some p =>
     obtain ⟨⟨t,ht,h1⟩,h2⟩:=h;refine ⟨⟨t,List.mem_append.2 (.inl ht),h1⟩,fun u hu hn=>?_⟩
     rcases List.mem_append.1 hu with e | e
     . exact h2 u e hn
     . rw [List.mem_singleton] at e; subst e; simp only at hn; omega
 . rw [if_neg hw]
   have me:(w,c,d) ∈ l ++ [(w,c,d)]:=List.mem_append.2 (.inr (List.mem_singleton.2 rfl));cases r with
   | none =>
     refine ⟨⟨_,me,by simp only; omega,rfl,rfl⟩,fun u hu hn=>?_⟩
     rcases List.mem_append.1 hu with e | e
     . have:=h u e; omega
     . rw [List.mem_singleton] at e; subst e; exact .inr ⟨rfl,Int.le_refl _⟩
   | some p =>
     obtain ⟨x,y⟩:=p;obtain ⟨⟨t,ht,h1⟩,h2⟩:=h;dsimp only
     by_cases hb:c < x ∨ c = x /\ d < y
     . rw [if_pos hb]
       refine ⟨⟨_,me,by simp only; omega,rfl,rfl⟩,fun u hu hn=>?_⟩
       rcases List.mem_append.1 hu with e | e
       . have:=h2 u e hn; omega
       . rw [List.mem_singleton] at e; subst e; exact .inr ⟨rfl,Int.le_refl _⟩
     . rw [if_neg hb]
       refine ⟨⟨t,List.mem_append.2 (.inl ht),h1⟩,fun u hu hn=>?_⟩
       rcases List.mem_append.1 hu with e | e
       . exact h2 u e hn
       . rw [List.mem_singleton] at e; subst e; simp only; omega
def tri (x:Plan):Int × Int × Int:=(x.weight,x.closings,x.delay)
theorem Y0m (need:Int):∀ (l pre:List Plan) (b:Option Plan),Best need (pre.map tri) (b.map fun x=>(x.closings,x.delay)) -> (∀ x,b = some x -> x ∈ pre /\ need <= x.weight) ->
    Best need ((pre ++ l).map tri) ((l.foldl (Q1t need) b).map fun x=>(x.closings,x.delay)) /\ ∀ x,l.foldl (Q1t need) b = some x -> x ∈ pre ++ l /\ need <= x.weight
 | [],pre,b,h,hb=>by rw [List.append_nil]; exact ⟨h,hb⟩
 | x :: l,pre,b,h,hb=>by
   have hp:=Z3o h x.weight x.closings x.delay;have e:pick need (b.map fun x=>(x.closings,x.delay)) x.weight x.closings x.delay = (Q1t need b x).map fun x=>(x.closings,x.delay):=by
    unfold pick Q1t
    by_cases hw:x.weight < need
    . rw [if_pos hw,if_pos hw]
    . rw [if_neg hw,if_neg hw]
      cases b with
      | none=>rfl
      | some o =>
        dsimp only [Option.map_some]
        by_cases hc:x.closings < o.closings ∨ x.closings = o.closings /\ x.delay < o.delay
        . rw [if_pos hc,if_pos hc]; rfl
        . rw [if_neg hc,if_neg hc]; rfl
   rw [e] at hp;have:=Y0m need l (pre ++ [x]) (Q1t need b x) (by rw [List.map_append]; exact hp) fun y hy=>by
    unfold Q1t at hy
    by_cases hw:x.weight < need
    . rw [if_pos hw] at hy
      obtain ⟨k1,k2⟩:=hb y hy;exact ⟨List.mem_append.2 (.inl k1),k2⟩
    . rw [if_neg hw] at hy
      have hx:x ∈ pre ++ [x]:=List.mem_append.2 (.inr (List.mem_singleton.2 rfl));cases b with
      | none=>cases hy; exact ⟨hx,by omega⟩
      | some o =>
        dsimp only at hy
        split at hy
        . cases hy; exact ⟨hx,by omega⟩
        . obtain ⟨k1,k2⟩:=hb y hy
          exact ⟨List.mem_append.2 (.inl k1),k2⟩
   rw [List.append_assoc] at this;exact this
theorem J0l (hf:Fine s) {need:Int} {x:Plan} (h:Y4m s need = some x):need <= x.weight /\ Q2e s (Q3r s (X9u s x)) = x.weight /\ Q5f s (X9u s x) = x.closings /\ X4u s (X9u s x) = x.delay:=by
 obtain ⟨-,k⟩:=Y0m need (Q2m s) [] none (fun t ht=>absurd ht (by simp)) (fun x hx=>by cases hx)
 obtain ⟨k1,k2⟩:=k x h;exact ⟨k2,Z8n hf (by simpa using k1)⟩
end Go.Tw
namespace Go.Tw
variable {s:Q0b}
theorem Q2r (p:List Rul) (l:List Int):(Q0o p l).length = l.length:=by simp [Q0o]
end Go.Tw
namespace Go.Tw
variable {s:Q0b}
theorem Q7o (n t:Nat):(Q4f n t).length = t:=by simp [Q4f]
end Go.Tw
