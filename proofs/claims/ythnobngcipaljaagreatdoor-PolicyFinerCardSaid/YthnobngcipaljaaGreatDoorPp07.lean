/- Contract of the reference: CheckSeason. Contracts of the program: mapped errors of numbers; ContainsFunc over members (CheckSeason's closure). Plain law: each plan is what the policy of its closed histories comes to, and no policy does better than all plans. Plain law: the same of all runners, class by class and tide by tide. Plain law: what runners come to is what the policy keeps, closes and delays. Plain law: the greatest weight and the best cost over the plans are those over all policies by their codes. Plain law: what PolicyBest says of the greatest weight, the best cost and the groups. Plain law: prefixes of closings; Q7o members; the first closings of a member alone. Contract of the reference: Follow. -/
import Derived.Test.YthnobngcipaljaaGreatDoorPp06
import Derived.Test.YthnobngcipaljaaGreatDoorPp03
import Derived.Shelf.Abstract
import Derived.Test.YthnobngcipaljaaGreatDoorPp04
set_option maxRecDepth 1000000
set_option maxHeartbeats 64000000
set_option linter.unusedVariables false
set_option linter.unusedSimpArgs false
set_option linter.constructorNameAsVariable false
open Go.Lib (hid)
namespace Go.Proofs
open Go.RowKit Go.Tw Go.Flow
def Q3f (f:Nat -> Int) (n k:Nat):Int:=Q0g (((List.range n).map f).drop k)
theorem X1h {f:Nat -> Int} {n k:Nat} (hk:k < n):Q3f f n k=if f k=0 then Q3f f n (k + 1) else f k:=by
 unfold Q3f;rw [List.drop_eq_getElem_cons (by simpa using hk),List.getElem_map,List.getElem_range]; rfl
theorem X2k {f:Nat -> Int} {n k:Nat} (hk:n <= k):Q3f f n k=0:=by
 unfold Q3f;rw [List.drop_eq_nil_of_le (by simpa using hk)]; rfl
theorem Q7u:∀ {l:List Int} {m:Int},Q0o l m ≠ 0 -> Q0o l m=3
 | [],m,h=>absurd rfl h
 | x :: l,m,h=>by
   rw [Q9v] at h ⊢
   split at h
   . rename_i h0; rw [if_pos h0]; exact Q7u h
   . rename_i h0; rw [if_neg h0]; exact Q5v h0
theorem Y4e {s:Q0b} (h:Q0f s.limit 0 1024 ≠ 0):s.err=3:=if_pos h
theorem Y7s {s:Q0b} (h:Q0f s.limit 0 1024=0) (h1:s.ships.length=0):s.err=12:=(if_neg (fun hn=>hn h)).trans (if_pos h1)
theorem Y8g {s:Q0b} (h:Q0f s.limit 0 1024=0) (h1:¬ s.ships.length=0) (h2:6 < s.ships.length):s.err=5:=(if_neg (fun hn=>hn h)).trans ((if_neg h1).trans (if_pos h2))
theorem Y3v {s:Q0b} (h:Q0f s.limit 0 1024=0) (h1:¬ s.ships.length=0) (h2:¬ 6 < s.ships.length) (h3:Q0o s.ships 1000 ≠ 0):s.err=3:=(if_neg (fun hn=>hn h)).trans ((if_neg h1).trans ((if_neg h2).trans (if_pos h3)))
theorem X4s {s:Q0b} (h:Q0f s.limit 0 1024=0) (h1:¬ s.ships.length=0) (h2:¬ 6 < s.ships.length) (h3:Q0o s.ships 1000=0) :
    s.err=if s.members.length=0 then 12 else if 8 < s.members.length then 5 else Q3f s.Q2o s.members.length 0:=(if_neg (fun hn=>hn h)).trans ((if_neg h1).trans ((if_neg h2).trans (if_neg (fun hn=>hn h3))))
theorem Z0w (w:World) (v:Value) (s:Q0b) (hv:Q0h w v s) :
    Calls Tryz.prog 16 #[v] w fun e w'=>e=.returned (.int .i64 s.err) /\ Ext w w':=by
 obtain ⟨a,b,rfl,h2⟩:=hv;obtain ⟨A,capa,rfl,hla,-,-⟩:=h2.ships.opened;obtain ⟨B,capb,rfl,hlb,-,-⟩:=h2.members.opened;have H2:=hid h2;clear h2;have HEL:=hid (Y4e (s:=s));have HEN:=hid (Y7s (s:=s));have HEM:=hid (Y8g (s:=s));have HED:=hid (Y3v (s:=s));have HES:=hid (X4s (s:=s));go_enter Tryz.func16,Tryz.ntmps16;go_wp2_with fail;change Calls _ _ _ (w.alloc (.cells #[.int .i64 s.limit,.slice A s.ships.length capa,.slice B s.members.length capb] 25)) _;obtain ⟨W,hWW,k0,HXW,eW⟩:=Q1t w 25 #[.int .i64 s.limit,.slice A s.ships.length capa,.slice B s.members.length capb];rw [hWW];clear hWW;have K0:=hid k0;have c0_0:=k0.cell 0;have c0_1:=k0.cell 1;have c0_2:=k0.cell 2;simp only [Go.Tw.gA,Go.Tw.gB,Go.Tw.gC] at c0_0 c0_1 c0_2;clear k0;refine (Q2a _ s.limit 0 1024).mono ?_;rintro e w' ⟨rfl,rfl⟩
 by_cases h0:Q0f s.limit 0 1024 ≠ 0
 . have h0b:(Q0f s.limit 0 1024 != 0)=true:=by simp [h0]
   have HR:Hid (s.err=Q0f s.limit 0 1024):=hid (by rw [HEL.out h0,Q5v h0])
   clear h0;go_wp2;go_ret;exact ⟨Q1d HR.out.symm,HXW.out⟩
 replace h0:=Decidable.not_not.1 h0;have h0b:(Q0f s.limit 0 1024 != 0)=false:=by simp [h0]
 have HZ0:=hid h0;clear h0
 by_cases h1:s.ships.length=0
 . have h1b:((s.ships.length:Int) == 0)=true:=by rw [h1]; rfl
   have HR:=hid (HEN.out HZ0.out h1);clear h1;go_wp2;go_ret;exact ⟨Q1d HR.out.symm,HXW.out⟩
 have h1b:((s.ships.length:Int) == 0)=false:=by rw [beq_eq_false_iff_ne]; omega
 have HZ1:=hid h1;clear h1
 by_cases h6:6 < s.ships.length
 . have h6b:(6:Int) < s.ships.length:=by omega
   have HR:=hid (HEM.out HZ0.out HZ1.out h6);clear h6;go_wp2;go_ret;exact ⟨Q1d HR.out.symm,HXW.out⟩
 have h6b:¬ (6:Int) < s.ships.length:=by omega
 have HZ6:=hid h6;clear h6;go_wp2_with fail;refine (Q6c _ _ s.ships 1000 (H2.out.ships.ext HXW.out)).mono ?_;rintro e w1 ⟨rfl,hx1⟩;replace c0_0:=hx1.cell c0_0;replace c0_1:=hx1.cell c0_1;replace c0_2:=hx1.cell c0_2;have HX1:=hid (HXW.out.trans hx1);clear hx1
 by_cases h3:Q0o s.ships 1000 ≠ 0
 . have h3b:(Q0o s.ships 1000 != 0)=true:=by simp [h3]
   have HR:Hid (s.err=Q0o s.ships 1000):=hid (by rw [HED.out HZ0.out HZ1.out HZ6.out h3,Q7u h3])
   clear h3;go_wp2;go_ret;exact ⟨Q1d HR.out.symm,HX1.out⟩
 replace h3:=Decidable.not_not.1 h3;have h3b:(Q0o s.ships 1000 != 0)=false:=by simp [h3]
 have HREST:=hid (HES.out HZ0.out HZ1.out HZ6.out h3);clear h3
 by_cases h4:s.members.length=0
 . have h4b:((s.members.length:Int) == 0)=true:=by rw [h4]; rfl
   have HR:Hid (s.err=12):=hid (by rw [HREST.out,if_pos h4])
   clear h4;go_wp2;go_ret;exact ⟨Q1d HR.out.symm,HX1.out⟩
 have h4b:((s.members.length:Int) == 0)=false:=by rw [beq_eq_false_iff_ne]; omega
 by_cases h8:8 < s.members.length
 . have h8b:(8:Int) < s.members.length:=by omega
   have HR:Hid (s.err=5):=hid (by rw [HREST.out,if_neg h4,if_pos h8])
   clear h4 h8;go_wp2;go_ret;exact ⟨Q1d HR.out.symm,HX1.out⟩
 have h8b:¬ (8:Int) < s.members.length:=by omega
 have HE:Hid (s.err=Q3f s.Q2o s.members.length 0):=hid (by rw [HREST.out,if_neg h4,if_neg h8])
 clear h4 h8 HREST HEL HEN HEM HED HES;go_wp2_with fail
 go_loopw [5] (fun i wr=>∃ k:Nat,k <= s.members.length /\ i=.int .i64 k /\ Q3f s.Q2o s.members.length k=Q3f s.Q2o s.members.length 0 /\ Ext w1 wr) (fun i _=>s.members.length - (intOf i).toNat)
 case atStart=>exact ⟨0,Nat.zero_le _,rfl,rfl,Ext.refl _⟩
 case round =>
  obtain ⟨k,hk,rfl,hr,hx⟩:=hrel;have HR:=hid hr;have HX:=hid hx;replace c0_0:=hx.cell c0_0;replace c0_1:=hx.cell c0_1;replace c0_2:=hx.cell c0_2;clear hr hx
  by_cases hlt:k < s.members.length
  . have hltI:(k:Int) < (s.members.length:Int):=by omega
    have HST:=hid (X1h (f:=s.Q2o) hlt);have HCM:=hid (X3j wr _ s k ⟨_,_,rfl,H2.out.ext (HX1.out.trans HX.out)⟩ hlt)
    go_light
    go_wp2_with fail;refine HCM.out.mono ?_;rintro e w2 ⟨rfl,hx2⟩;have HX2:=hid (HX.out.trans hx2);clear hx2 c0_0 c0_1 c0_2
    by_cases he:s.Q2o k=0
    . have heb:(s.Q2o k != 0)=false:=by simp [he]
      have HZ:=hid he;clear he;go_wp2;go_roundw
      case rel=>exact ⟨k + 1,by omega,by go_num,by rw [<- HR.out,HST.out,if_pos HZ.out],HX2.out⟩
      case measure=>simp [intOf]; omega
    . have heb:(s.Q2o k != 0)=true:=by simp [he]
      have HZ:=hid he;clear he;go_wp2;go_ret;exact ⟨Q1d (by rw [HE.out,<- HR.out,HST.out,if_neg HZ.out]),HX1.out.trans HX2.out⟩
  . have hltI:¬ (k:Int) < (s.members.length:Int):=by omega
    go_wp2;go_ret;exact ⟨Q1d (by rw [HE.out,<- HR.out,X2k (by omega)]),HX1.out.trans HX.out⟩
end Go.Proofs
namespace Go.Proofs
open Go.RowKit Go.Tw Go.Flow
theorem Tryz.Z2r:(Tryz.prog.info? 29).map (fun i=>(i.zero,i.size,i.bytes))=some (some (.int .i64 0),1,8):=by kernel_rfl
theorem Z4d (f:Int -> Int) (l:List Int) {k:Nat} (hk:k < l.length):(l.map f).take k ++ [f (ix l k)]=(l.map f).take (k + 1):=by
 rw [List.take_succ_eq_append_getElem (by simpa using hk),Q4s hk]
 simp
theorem Q7e (w:World) (v:Value) (l:List Int) (g:Nat) (f:Int -> Int) (hv:Q0d w v l) (hle:l.length <= 4096) (eg:∀ args w,(callFunc g args).run Tryz.prog w=.ok (.enter g args) w)
    (hf:∀ W x,Calls Tryz.prog g #[.int .i64 x] W fun e W'=>e=.returned (.int .i64 (f x)) /\ W=W') :
    Calls Tryz.prog 120 #[v,.func (.func g) #[] #[]] w fun e w'=>∃ x,e=.returned x /\ Q0d w' x (l.map f) /\ Ext w w':=by
 obtain ⟨i0,hi,hz0,hz1,hz2⟩:=info_parts Tryz.Z2r;obtain ⟨A,cap,rfl,hl,hcap,hc⟩:=hv.opened;have HC:=hid hc;have HF:=hid hf;clear hv hc hf;go_enter Tryz.func120,Tryz.ntmps120;go_wp2
 go_loopw [5,10] (fun o i wr=>∃ (k:Nat),k <= l.length /\ i=.int .i64 k /\ Q0q wr w.heap.size 29 (.int .i64) o ((l.map f).take k) /\ Ext w wr) (fun _ i _=>l.length - (intOf i).toNat)
 case atStart=>exact ⟨0,Nat.zero_le _,rfl,Q0q.nil _ _ _ _,Ext.refl _⟩
 case round =>
  obtain ⟨k,hk,rfl,hown,hx⟩:=hrel;have hlen:((l.map f).take k).length=k:=by rw [List.length_take,List.length_map]; omega
  by_cases hlt:k < l.length
  . obtain ⟨b,off,rfl,hcell⟩:=HC.out k hlt
    have HTK:=hid (Z4d f l hlt);obtain ⟨s,hs⟩:∃ s,ix l k=s:=⟨_,rfl⟩;have HFS:=hid (HF.out wr s);rw [hs] at hcell HTK;obtain ⟨y,hy⟩:∃ y,f s=y:=⟨_,rfl⟩;rw [hy] at HFS HTK;replace hcell:=hx.cell hcell;have hll:((l.map f).take k).length <= 4096:=by omega
    clear hs hlen hy;go_wp2_with (first | (refine HFS.out.mono ?_; rintro e w9 ⟨rfl,rfl⟩) | (at_builtin; refine wpList_append_own _ rfl _ _ 191 rfl (w.heap.size) 29 i0 (.int .i64 0) 1 8 Tryz.underlying191 hi hz0 hz1 hz2 rfl (by decide) _ _ _ rfl (World.ownsRow.alloc hown _) ⟨wr.heap.size,0,none⟩ 1 1 [.int .i64 y] rfl rfl ?_ ?_ ?_ ?_ ?_ ?_; exact Q4p _ _ _; (focus (simp [Value.oneCell'])); (focus (unfold maxLen; omega)); (focus omega); (focus (have:=hx.size; simp at this ⊢; omega)); intro v' w1 hown' hgrow _))
    have hx':=Q2w hx hown (Nat.le_refl _) hgrow;go_wp2;go_roundw
    case rel=>exact ⟨k + 1,by omega,by go_num,by rw [<- HTK.out]; exact Q0q.snoc hown',hx'⟩
    case measure=>simp [intOf]; omega
  . have HE:Hid ((l.map f).take k=l.map f):=hid (by rw [List.take_of_length_le (by rw [List.length_map]; omega)])
    rw [HE.out] at hown;have HOWN:=hid hown;clear hown hlen;go_wp2;go_ret;exact ⟨_,rfl,HOWN.out.ints (by simp; omega),hx⟩
theorem Q7k (w:World) (v:Value) (l:List Int) (hv:Q0d w v l) (hle:l.length <= 4096) :
    Calls Tryz.prog 120 #[v,.func (.func 118) #[] #[]] w fun e w'=>∃ x,e=.returned x /\ Q0d w' x (l.map fun x=>Q0f x 0 1024) /\ Ext w w' :=
 Q7e w v l _ _ hv hle (enters_of Tryz.func118 (by kernel_rfl) rfl) (fun W x=>Q7t W x)
theorem X5b (w:World) (v:Value) (l:List Int) (hv:Q0d w v l) (hle:l.length <= 4096) :
    Calls Tryz.prog 120 #[v,.func (.func 121) #[] #[]] w fun e w'=>∃ x,e=.returned x /\ Q0d w' x (l.map fun x=>Q0f x 0 1000) /\ Ext w w' :=
 Q7e w v l _ _ hv hle (enters_of Tryz.func121 (by kernel_rfl) rfl) (fun W x=>X6r W x)
theorem Q7m (w:World) (v:Value) (l:List Int) (hv:Q0d w v l) (hle:l.length <= 4096) :
    Calls Tryz.prog 120 #[v,.func (.func 126) #[] #[]] w fun e w'=>∃ x,e=.returned x /\ Q0d w' x (l.map fun x=>Q0f x 0 9) /\ Ext w w' :=
 Q7e w v l _ _ hv hle (enters_of Tryz.func126 (by kernel_rfl) rfl) (fun W x=>X6l W x)
theorem Y5b (W:World) (nm s:ByteArray) (c1 c2 c3 c4:Value) (B:Nat) (hB:W.cell? ⟨B,0,none⟩=some (.string s)) :
    Calls Tryz.prog 123 #[.agg #[.string nm,c1,c2,c3,c4],.pointer (some ⟨B,0,none⟩)] W fun e W'=>e=.returned (.bool (nm == s)) /\ Ext W W':=by
 obtain ⟨q,hq⟩:∃ q,(nm.toList == s.toList)=q:=⟨_,rfl⟩;have HQ:Hid ((nm == s)=q):=hid (by rw [Go.beq_toListBytes]; exact hq)
 have hx:=Ext.box W (.cells #[.string nm,c1,c2,c3,c4] 69);have hB2:=hx.cell hB;have k0:=Blk.made W 69 #[.string nm,c1,c2,c3,c4];have c0:=k0.cell 0;simp only [Go.Tw.gA,Go.Tw.gB] at c0;clear hB k0;go_enter Tryz.func123,Tryz.ntmps123;go_wp2;go_ret;exact ⟨Q0u HQ.out.symm,hx⟩
theorem X5r (w:World) (l:List Mem) (n:Nat) (A:Option Addr) (cap B:Nat) (s:ByteArray) (hB:w.cell? ⟨B,0,none⟩=some (.string s)) (hn:n <= 17592186043904)
    (hc:∀ k,k < n -> ∃ b off c1 c2 c3 c4,A=some ⟨b,off,none⟩ /\ w.cell? ⟨b,off + k * 5,none⟩=some (.string (Q1h l k)) /\ w.cell? ⟨b,off + k * 5 + 1,none⟩=some c1 /\ w.cell? ⟨b,off + k * 5 + 2,none⟩=some c2 /\ w.cell? ⟨b,off + k * 5 + 3,none⟩=some c3 /\ w.cell? ⟨b,off + k * 5 + 4,none⟩=some c4) :
    Calls Tryz.prog 172 #[.slice A n cap,.func (.func 123) #[] #[.pointer (some ⟨B,0,none⟩)]] w fun e w'=>∃ r:Int,e=.returned (.int .i64 r) /\ decide (0 <= r)=((List.range n).any fun k=>Q1h l k == s) /\ Ext w w':=by
 have HC:=hid hc;obtain ⟨p,hp⟩:∃ p:Nat -> Bool,(fun k=>Q1h l k == s)=p:=⟨_,rfl⟩
 have HP:Hid (∀ k,(Q1h l k == s)=p k):=hid (fun k=>by rw [<- hp])
 rw [hp];clear hc hp;go_enter Tryz.func172,Tryz.ntmps172;go_wp2
 go_loopw [8] (fun i wr=>∃ k:Nat,k <= n /\ i=.int .i64 k /\ ((List.range n).drop k).any p=(List.range n).any p /\ Ext w wr) (fun i _=>n - (intOf i).toNat)
 case atStart=>exact ⟨0,Nat.zero_le _,rfl,rfl,Ext.refl _⟩
 case round =>
  obtain ⟨k,hk,rfl,hr,hx⟩:=hrel;have HR:=hid hr; clear hr
  by_cases hlt:k < n
  . obtain ⟨b,off,c1,c2,c3,c4,rfl,e0,e1,e2,e3,e4⟩:=HC.out k hlt
    replace e0:=hx.cell e0;replace e1:=hx.cell e1;replace e2:=hx.cell e2;replace e3:=hx.cell e3;replace e4:=hx.cell e4;have hB2:=hx.cell hB;have HST:Hid ((List.range n).any p=(p k || ((List.range n).drop (k + 1)).any p)):=hid (by
     rw [<- HR.out,List.drop_eq_getElem_cons (by simpa using hlt),List.any_cons,List.getElem_range])
    have HPK:=hid (HP.out k);obtain ⟨nm,hnm⟩:∃ x,Q1h l k=x:=⟨_,rfl⟩;rw [hnm] at HPK e0;have HCL:=hid (Y5b wr nm s c1 c2 c3 c4 B hB2);rw [HPK.out] at HCL;obtain ⟨q,hq⟩:∃ q,p k=q:=⟨_,rfl⟩;rw [hq] at HCL HST;clear hq hnm hB2;cases q with
    | true =>
      go_wp2_with (refine HCL.out.mono ?_; rintro e w9 ⟨rfl,hx9⟩);go_ret;exact ⟨k,rfl,by rw [HST.out]; simp,hx.trans hx9⟩
    | false =>
      go_wp2_with (refine HCL.out.mono ?_; rintro e w9 ⟨rfl,hx9⟩);go_roundw
      case rel=>exact ⟨k + 1,by omega,by go_num,by rw [HST.out,Bool.false_or],hx.trans hx9⟩
      case measure=>simp [intOf]; omega
  . go_wp2
    go_ret;exact ⟨-1,rfl,by rw [<- HR.out,List.drop_eq_nil_of_le (by simp; omega)]; rfl,hx⟩
theorem Y9x (w:World) (l:List Mem) (n:Nat) (A:Option Addr) (cap B:Nat) (s:ByteArray) (hB:w.cell? ⟨B,0,none⟩=some (.string s)) (hn:n <= 17592186043904)
    (hc:∀ k,k < n -> ∃ b off c1 c2 c3 c4,A=some ⟨b,off,none⟩ /\ w.cell? ⟨b,off + k * 5,none⟩=some (.string (Q1h l k)) /\ w.cell? ⟨b,off + k * 5 + 1,none⟩=some c1 /\ w.cell? ⟨b,off + k * 5 + 2,none⟩=some c2 /\ w.cell? ⟨b,off + k * 5 + 3,none⟩=some c3 /\ w.cell? ⟨b,off + k * 5 + 4,none⟩=some c4) :
    Calls Tryz.prog 122 #[.slice A n cap,.func (.func 123) #[] #[.pointer (some ⟨B,0,none⟩)]] w fun e w'=>e=.returned (.bool ((List.range n).any fun k=>Q1h l k == s)) /\ Ext w w':=by
 have HI:=hid (X5r w l n A cap B s hB hn hc);obtain ⟨q,hq⟩:∃ q,((List.range n).any fun k=>Q1h l k == s)=q:=⟨_,rfl⟩
 rw [hq] at HI ⊢;clear hc hq hB;go_enter Tryz.func122,Tryz.ntmps122;go_wp2_with (go_at_call 172; refine HI.out.mono ?_; rintro e w' ⟨r,rfl,hr,hx⟩; have HR:=hid hr; clear hr);go_ret;exact ⟨Q0u HR.out,hx⟩
end Go.Proofs
namespace Go.Tw
variable {s:Q0b}
theorem Z5w {i t u:Nat} (h:t < u):ix (hs s i u) t=ix (Q0c s.members i) t:=by
 unfold ix hs; simp [List.getD_eq_getElem?_getD,h]
theorem Z3z (hf:Fine s) {i u:Nat} (hi:i < s.members.length) (hu:u <= s.ships.length):(hs s i u).length=u:=by
 have:=(hf.shaped i hi).1;simp only [hs,List.length_take]; omega
theorem key_eq (hf:Fine s) {i j u v:Nat} (hi:i < s.members.length) (hj:j < s.members.length) (h:Q5x (hs s i u)=Q5x (hs s j v)):hs s i u=hs s j v :=
 Y8h (Q4k (hf.digits i hi) u) (Q4k (hf.digits j hj) v) h
theorem X8n (hf:Fine s) {i j u v:Nat} (hi:i < s.members.length) (hj:j < s.members.length) (hu:u <= s.ships.length) (hv:v <= s.ships.length) (h:u ≠ v):Q5x (hs s i u) ≠ Q5x (hs s j v):=by
 intro e;have:=congrArg List.length (key_eq hf hi hj e);rw [Z3z hf hi hu,Z3z hf hj hv] at this;exact h this
theorem Y1v (hf:Fine s) {i j u v t:Nat} (hi:i < s.members.length) (hj:j < s.members.length) (hu:t < u) (hv:t < v) (h:ix (Q0c s.members i) t ≠ ix (Q0c s.members j) t):Q5x (hs s i u) ≠ Q5x (hs s j v):=by
 intro e;have:=congrArg (fun l=>ix l t) (key_eq hf hi hj e);simp only [Z5w hu,Z5w hv] at this;exact h this
def Q6t (s:Q0b) (t:Nat) (l:List Runner):Prop:=∀ r ∈ l,∀ q ∈ l,hs s r.member t=hs s q.member t
theorem Q8g (hf:Fine s) {t c:Nat} {l:List Runner} (hk:Known s l) (ht:t < s.ships.length) (h:Q6t s t l):Q6t s (t + 1) (Q6k s t c l):=by
 intro r hr q hq;obtain ⟨hr1,hr2⟩:=List.mem_filter.1 hr;obtain ⟨hq1,hq2⟩:=List.mem_filter.1 hq;have e:=h r hr1 q hq1;simp only [beq_iff_eq] at hr2 hq2;have l1:=(hf.shaped _ (hk r hr1)).1;have l2:=(hf.shaped _ (hk q hq1)).1;unfold hs at e ⊢;rw [List.take_add_one,List.take_add_one,e,List.getElem?_eq_getElem (by omega),List.getElem?_eq_getElem (by omega)]
 rw [Q4s (by omega)] at hr2 hq2
 rw [hr2,hq2]
theorem Q2q {t:Nat} {c:Bool} {l:List Runner} (h:Known s l):Known s (moved s t c l):=by
 intro r hr;obtain ⟨q,hq,rfl⟩:=List.mem_map.1 hr;exact h q hq
theorem Q3c {t u:Nat} {c:Bool} {l:List Runner} (h:Q6t s u l):Q6t s u (moved s t c l):=by
 intro r hr q hq;obtain ⟨r',hr',rfl⟩:=List.mem_map.1 hr;obtain ⟨q',hq',rfl⟩:=List.mem_map.1 hq;exact h r' hr' q' hq'
theorem Q6r {t c:Nat} {l:List Runner} (h:Known s l):Known s (Q6k s t c l):=fun r hr=>h r (List.mem_filter.1 hr).1
theorem X3q {f:List Int -> Bool} {k:Nat} {c:Bool}:∀ {l:List Runner},(∀ r ∈ l,f (hs s r.member (s.ships.length - k))=c) ->
    Z0n s f (k + 1) l=Z0n s f k (moved s (s.ships.length - (k + 1)) c l) /\
    Y5k s f (k + 1) l=(if c then Q4v s l else 0) + Y5k s f k (moved s (s.ships.length - (k + 1)) c l) /\
    Y6n s f (k + 1) l=(if c then Q4v s l * ix s.ships (s.ships.length - (k + 1)) else 0) + Y6n s f k (moved s (s.ships.length - (k + 1)) c l)
 | [],_=>by cases c <;> simp [Z0n,Y5k,Y6n,moved,Q4v]
 | r :: l,h=>by
   obtain ⟨h1,h2,h3⟩:=X3q (l:=l) fun r hr=>h r (List.mem_cons_of_mem _ hr)
   have e:=h r List.mem_cons_self;unfold Z0n at h1 ⊢; unfold Y5k at h2 ⊢; unfold Y6n at h3 ⊢;rw [Y0e] at h1 h2 h3 ⊢;simp only [List.map_cons,List.sum_cons,Q4v] at h1 h2 h3 ⊢;rw [h1,h2,h3];simp only [Z8w,Z7j,Z8j,e,mv1];refine ⟨rfl,?_,?_⟩
   . cases c
     . simp
     . simp only [if_true]; rw [Int.mul_add]; omega
   . cases c
     . simp
     . simp only [if_true]; rw [Int.mul_add,Int.add_mul]; omega
def Sound (s:Q0b) (t k:Nat) (l:List Runner) (x:Plan):Prop :=
 Keys s x.closed t l /\ ∀ f,Agr s f x.closed t l -> Z0n s f k l=x.weight /\ Y5k s f k l=x.closings /\ Y6n s f k l=x.delay
def Covers (s:Q0b) (f:List Int -> Bool) (k:Nat) (l:List Runner) (x:Plan):Prop:=Z0n s f k l <= x.weight /\ x.closings <= Y5k s f k l /\ x.delay <= Y6n s f k l
instance lawB:LawfulBEq ByteArray where
 eq_of_beq {a b} h:=by
  by_cases e:a=b
  . exact e
  . rw [X1c e] at h; exact absurd h (by simp)
 rfl {a}:=str_eq rfl
theorem X2h (a b:List ByteArray) (k:ByteArray):(a ++ b).contains k=(a.contains k || b.contains k):=by simp
theorem Q7h {a:List ByteArray} {k:ByteArray} (h:∀ b ∈ a,b ≠ k):a.contains k=false:=by
 rw [<- Bool.not_eq_true,List.contains_iff_mem]; exact fun hk=>h k hk rfl
theorem Y4a (hf:Fine s) {k:Nat} (hk:k + 1 <= s.ships.length) {sub:List Runner -> List Plan}
    (ih:∀ l,Known s l -> Q6t s (s.ships.length - k) l -> ∀ x ∈ sub l,Sound s (s.ships.length - k) k l x) {l:List Runner} (hl:Known s l) (hn:l ≠ [])
    (hs':Q6t s (s.ships.length - k) l) {x:Plan} (hx:x ∈ Q3l s (s.ships.length - (k + 1)) sub l):Sound s (s.ships.length - (k + 1)) (k + 1) l x:=by
 have e1:s.ships.length - (k + 1) + 1=s.ships.length - k:=by omega
 rcases List.mem_append.1 (X4n hx) with h | h
 . obtain ⟨h1,h2⟩:=ih _ (Q2q hl) (Q3c hs') x h
   refine ⟨fun b hb=>?_,fun f hA=>?_⟩
   . obtain ⟨r,hr,u,hu,hu2,e⟩:=h1 b hb
     obtain ⟨q,hq,rfl⟩:=List.mem_map.1 hr;exact ⟨q,hq,u,by omega,hu2,e⟩
   . have hc:∀ r ∈ l,f (hs s r.member (s.ships.length - k))=false:=by
      intro r hr;rw [hA r hr _ (by omega) (by omega)]
      refine Q7h fun b hb=>?_;obtain ⟨q,hq,u,hu,hu2,e⟩:=h1 b hb;rw [e];exact X8n hf (Q2q hl q hq) (hl r hr) hu2 (by omega) (by omega)
     obtain ⟨v1,v2,v3⟩:=X3q hc;obtain ⟨w1,w2,w3⟩:=h2 f fun r hr u hu hu2=>by
      obtain ⟨q,hq,rfl⟩:=List.mem_map.1 hr;exact hA q hq u (by omega) hu2
     rw [v1,v2,v3,w1,w2,w3];simp
 . obtain ⟨y,hy,rfl⟩:=List.mem_map.1 h
   obtain ⟨h1,h2⟩:=ih _ (Q2q hl) (Q3c hs') y hy;obtain ⟨r0,l0,rfl⟩:∃ r0 l0,l=r0 :: l0:=by cases l with | nil=>exact absurd rfl hn | cons a b=>exact ⟨a,b,rfl⟩
   have hh:Y1m s (s.ships.length - (k + 1)) (r0 :: l0)=Q5x (hs s r0.member (s.ships.length - k)):=by rw [Y1m,hs,e1]
   refine ⟨fun b hb=>?_,fun f hA=>?_⟩
   . rcases List.mem_append.1 (show b ∈ y.closed ++ [_] from hb) with hb | hb
     . obtain ⟨r,hr,u,hu,hu2,e⟩:=h1 b hb
       obtain ⟨q,hq,rfl⟩:=List.mem_map.1 hr;exact ⟨q,hq,u,by omega,hu2,e⟩
     . rw [List.mem_singleton] at hb
       exact ⟨r0,List.mem_cons_self,s.ships.length - k,by omega,by omega,hb.trans hh⟩
   . have hA':∀ r ∈ r0 :: l0,∀ u,s.ships.length - (k + 1) < u -> u <= s.ships.length -> f (hs s r.member u)=(y.closed.contains (Q5x (hs s r.member u)) || [Y1m s (s.ships.length - (k + 1)) (r0 :: l0)].contains (Q5x (hs s r.member u))) :=
      fun r hr u hu hu2=>(hA r hr u hu hu2).trans (X2h _ _ _)
     have hc:∀ r ∈ r0 :: l0,f (hs s r.member (s.ships.length - k))=true:=by
      intro r hr;rw [hA' r hr _ (by omega) (by omega),hh,hs' r hr r0 List.mem_cons_self]
      simp
     obtain ⟨v1,v2,v3⟩:=X3q hc;obtain ⟨w1,w2,w3⟩:=h2 f fun r hr u hu hu2=>by
      obtain ⟨q,hq,rfl⟩:=List.mem_map.1 hr;have:=hA' q hq u (by omega) hu2
      rw [hh,Q7h (a:=[_]) (fun b hb=>by rw [List.mem_singleton] at hb; rw [hb]; exact X8n hf (hl r0 List.mem_cons_self) (hl q hq) (by omega) hu2 (by omega)),Bool.or_false] at this
      exact this
     rw [v1,v2,v3,w1,w2,w3];simp only [if_true,X8e];refine ⟨trivial,?_,?_⟩ <;> omega
theorem Y0i {k:Nat} {sub:List Runner -> List Plan} {f:List Int -> Bool}
    (ih:∀ l,Known s l -> Q6t s (s.ships.length - k) l -> ∃ x ∈ sub l,Covers s f k l x) {l:List Runner} (hl:Known s l) (hn:l ≠ [])
    (hs':Q6t s (s.ships.length - k) l):∃ x ∈ Q3l s (s.ships.length - (k + 1)) sub l,Covers s f (k + 1) l x:=by
 obtain ⟨r0,hr0⟩:=List.exists_mem_of_ne_nil l hn;have hc:∀ r ∈ l,f (hs s r.member (s.ships.length - k))=f (hs s r0.member (s.ships.length - k)):=fun r hr=>by rw [hs' r hr r0 hr0]
 obtain ⟨v1,v2,v3⟩:=X3q hc;obtain ⟨x,hx,c1,c2,c3⟩:=ih (moved s (s.ships.length - (k + 1)) (f (hs s r0.member (s.ships.length - k))) l) (Q2q hl) (Q3c hs');cases hb:f (hs s r0.member (s.ships.length - k))
 . rw [hb] at v1 v2 v3 hx c1 c2 c3
   obtain ⟨o,ho,hob⟩:=Q9z (l:=sub (moved s (s.ships.length - (k + 1)) false l) ++ (sub (moved s (s.ships.length - (k + 1)) true l)).map (X8e s (s.ships.length - (k + 1)) l)) (List.mem_append.2 (.inl hx));rw [Q7w] at hob;simp only [Bool.false_eq_true,if_false] at v2 v3;exact ⟨o,ho,by omega,by omega,by omega⟩
 . rw [hb] at v1 v2 v3 hx c1 c2 c3
   obtain ⟨o,ho,hob⟩:=Q9z (l:=sub (moved s (s.ships.length - (k + 1)) false l) ++ (sub (moved s (s.ships.length - (k + 1)) true l)).map (X8e s (s.ships.length - (k + 1)) l)) (List.mem_append.2 (.inr (List.mem_map.2 ⟨x,hx,rfl⟩)));rw [Q7w] at hob;simp only [if_true] at v2 v3;simp only [X8e] at hob;exact ⟨o,ho,by omega,by omega,by omega⟩
end Go.Tw
namespace Go.Tw
variable {s:Q0b}
def X2n (s:Q0b) (t c:Nat) (l:List Runner):List Runner:=l.filter fun x=>decide (ix (Q0c s.members x.member) t < (c:Int))
theorem Q8k {t c:Nat} {l:List Runner} {r:Runner}:r ∈ X2n s t c l ↔ r ∈ l /\ ix (Q0c s.members r.member) t < (c:Int):=by simp [X2n]
theorem X6c {t c:Nat} {l:List Runner} {r:Runner}:r ∈ Q6k s t c l ↔ r ∈ l /\ ix (Q0c s.members r.member) t=(c:Int):=by simp [Q6k]
theorem X4h {t c:Nat} {l:List Runner} {r:Runner} (h:r ∈ X2n s t c l):r ∈ X2n s t (c + 1) l:=by
 rw [Q8k] at h ⊢; exact ⟨h.1,by have:=h.2; omega⟩
theorem Y5h {t c:Nat} {l:List Runner} {r:Runner} (h:r ∈ Q6k s t c l):r ∈ X2n s t (c + 1) l:=by
 rw [X6c] at h; rw [Q8k]; exact ⟨h.1,by have:=h.2; omega⟩
theorem Q6x (t c:Nat) (g:Runner -> Int):∀ l:List Runner,((X2n s t (c + 1) l).map g).sum=((X2n s t c l).map g).sum + ((Q6k s t c l).map g).sum
 | []=>rfl
 | x :: l=>by
   have ih:=Q6x t c g l;unfold X2n Q6k at ih ⊢;simp only [List.filter_cons]
   by_cases h1:ix (Q0c s.members x.member) t < (c:Int)
   . have h2:ix (Q0c s.members x.member) t < ((c + 1:Nat):Int):=by omega
     have h3:(ix (Q0c s.members x.member) t == (c:Int))=false:=by simp; omega
     simp only [h1,h2,h3,decide_true,if_true,Bool.false_eq_true,if_false,List.map_cons,List.sum_cons]; omega
   . by_cases h4:ix (Q0c s.members x.member) t=(c:Int)
     . have h2:ix (Q0c s.members x.member) t < ((c + 1:Nat):Int):=by omega
       have h3:(ix (Q0c s.members x.member) t == (c:Int))=true:=by simp [h4]
       simp only [h1,h2,h3,decide_true,decide_false,if_true,Bool.false_eq_true,if_false,List.map_cons,List.sum_cons]; omega
     . have h2:¬ ix (Q0c s.members x.member) t < ((c + 1:Nat):Int):=by omega
       have h3:(ix (Q0c s.members x.member) t == (c:Int))=false:=by simp [h4]
       simp only [h1,h2,h3,decide_false,Bool.false_eq_true,if_false]; exact ih
theorem Y7z (hf:Fine s) {i t:Nat} (hi:i < s.members.length) (ht:t < s.ships.length):0 <= ix (Q0c s.members i) t /\ ix (Q0c s.members i) t <= 9:=by
 have h:=(hf.shaped i hi).1;rw [Q4s (by omega)]; exact hf.digits i hi _ (List.getElem_mem _)
theorem X9x (hf:Fine s) {t:Nat} {l:List Runner} (hl:Known s l) (ht:t < s.ships.length):X2n s t 0 l=[]:=by
 rw [X2n,List.filter_eq_nil_iff];intro r hr;have:=(Y7z hf (hl r hr) ht).1;simp only [decide_eq_true_eq]; omega
theorem Y6e (hf:Fine s) {t:Nat} {l:List Runner} (hl:Known s l) (ht:t < s.ships.length):X2n s t 10 l=l:=by
 rw [X2n,List.filter_eq_self];intro r hr;have:=(Y7z hf (hl r hr) ht).2;simp only [decide_eq_true_eq]; omega
theorem X0a (hf:Fine s) {k:Nat} (hk:k + 1 <= s.ships.length) {sub:List Runner -> List Plan}
    (ih:∀ l,Known s l -> Q6t s (s.ships.length - k) l -> ∀ x ∈ sub l,Sound s (s.ships.length - k) k l x) {l:List Runner} (hl:Known s l)
    (hs':Q6t s (s.ships.length - (k + 1)) l):∀ (c:Nat) (x:Plan),x ∈ Q1x s (s.ships.length - (k + 1)) sub l c ->
     Sound s (s.ships.length - (k + 1)) (k + 1) (X2n s (s.ships.length - (k + 1)) c l) x
 | 0,x,hx=>by
   rw [Q1x,List.mem_singleton] at hx;subst hx;rw [X9x hf hl (by omega)]
   exact ⟨fun b hb=>absurd hb (by simp),fun f _=>⟨rfl,rfl,rfl⟩⟩
 | c + 1,x,hx=>by
   have e1:s.ships.length - (k + 1) + 1=s.ships.length - k:=by omega
   rw [Q1x] at hx
   split at hx
   . rename_i hn
     obtain ⟨h1,h2⟩:=X0a hf hk ih hl hs' c x hx;refine ⟨fun b hb=>?_,fun f hA=>?_⟩
     . obtain ⟨r,hr,u,hu⟩:=h1 b hb
       exact ⟨r,X4h hr,u,hu⟩
     . obtain ⟨w1,w2,w3⟩:=h2 f fun r hr=>hA r (X4h hr)
       unfold Z0n at w1 ⊢; unfold Y5k at w2 ⊢; unfold Y6n at w3 ⊢;rw [Q6x,Q6x,Q6x,hn,w1,w2,w3];simp
   . rename_i hn
     obtain ⟨y,hy,z,hz,rfl⟩:=X2s hx;obtain ⟨h1,h2⟩:=X0a hf hk ih hl hs' c y hy;obtain ⟨g1,g2⟩:=Y4a hf hk ih (Q6r hl) hn (e1 ▸ Q8g hf hl (by omega) hs') hz
     refine ⟨fun b hb=>?_,fun f hA=>?_⟩
     . rcases List.mem_append.1 (show b ∈ y.closed ++ z.closed from hb) with hb | hb
       . obtain ⟨r,hr,u,hu⟩:=h1 b hb
         exact ⟨r,X4h hr,u,hu⟩
       . obtain ⟨r,hr,u,hu⟩:=g1 b hb
         exact ⟨r,Y5h hr,u,hu⟩
     . have hA':∀ r ∈ X2n s (s.ships.length - (k + 1)) (c + 1) l,∀ u,s.ships.length - (k + 1) < u -> u <= s.ships.length -> f (hs s r.member u)=(y.closed.contains (Q5x (hs s r.member u)) || z.closed.contains (Q5x (hs s r.member u))) :=
        fun r hr u hu hu2=>(hA r hr u hu hu2).trans (X2h _ _ _)
       obtain ⟨w1,w2,w3⟩:=h2 f fun r hr u hu hu2=>by
        have hr':=Q8k.1 hr;rw [hA' r (X4h hr) u hu hu2,Q7h (a:=z.closed),Bool.or_false];intro b hb;obtain ⟨q,hq,v,hv,hv2,e⟩:=g1 b hb;have hq':=X6c.1 hq;rw [e]; exact Y1v hf (hl q hq'.1) (hl r hr'.1) hv hu (by have:=hr'.2; have:=hq'.2; omega)
       obtain ⟨v1,v2,v3⟩:=g2 f fun r hr u hu hu2=>by
        have hr':=X6c.1 hr;rw [hA' r (Y5h hr) u hu hu2,Q7h (a:=y.closed),Bool.false_or];intro b hb;obtain ⟨q,hq,v,hv,hv2,e⟩:=h1 b hb;have hq':=Q8k.1 hq;rw [e]; exact Y1v hf (hl q hq'.1) (hl r hr'.1) hv hu (by have:=hr'.2; have:=hq'.2; omega)
       unfold Z0n at w1 v1 ⊢; unfold Y5k at w2 v2 ⊢; unfold Y6n at w3 v3 ⊢;rw [Q6x,Q6x,Q6x,w1,w2,w3,v1,v2,v3];exact ⟨rfl,rfl,rfl⟩
theorem X3a (hf:Fine s) {k:Nat} (hk:k + 1 <= s.ships.length) {sub:List Runner -> List Plan} {f:List Int -> Bool}
    (ih:∀ l,Known s l -> Q6t s (s.ships.length - k) l -> ∃ x ∈ sub l,Covers s f k l x) {l:List Runner} (hl:Known s l)
    (hs':Q6t s (s.ships.length - (k + 1)) l):∀ c:Nat,∃ x ∈ Q1x s (s.ships.length - (k + 1)) sub l c,Covers s f (k + 1) (X2n s (s.ships.length - (k + 1)) c l) x
 | 0=>by
   rw [X9x hf hl (by omega)]
   exact ⟨_,List.mem_singleton.2 rfl,Int.le_refl 0,Int.le_refl 0,Int.le_refl 0⟩
 | c + 1=>by
   have e1:s.ships.length - (k + 1) + 1=s.ships.length - k:=by omega
   obtain ⟨y,hy,y1,y2,y3⟩:=X3a hf hk ih hl hs' c;rw [Q1x];unfold Covers;unfold Z0n at y1 ⊢; unfold Y5k at y2 ⊢; unfold Y6n at y3 ⊢;simp only [Q6x]
   split
   . rename_i hn
     refine ⟨y,hy,?_⟩;rw [hn];simp only [List.map_nil,List.sum_nil];exact ⟨by omega,by omega,by omega⟩
   . rename_i hn
     obtain ⟨z,hz,z1,z2,z3⟩:=Y0i ih (Q6r (c:=c) hl) hn (e1 ▸ Q8g hf hl (by omega) hs')
     obtain ⟨o,ho,hob⟩:=X7j hy hz;rw [Q7w] at hob;simp only [both] at hob;unfold Z0n at z1; unfold Y5k at z2; unfold Y6n at z3;exact ⟨o,ho,by omega,by omega,by omega⟩
theorem X0p {α:Type}:∀ l:List α,(l.map fun _=>(0:Int)).sum=0
 | []=>rfl
 | _ :: l=>by rw [List.map_cons,List.sum_cons,X0p l]; rfl
theorem X4j (hf:Fine s):∀ k,k <= s.ships.length -> ∀ l,Known s l -> Q6t s (s.ships.length - k) l -> ∀ x ∈ Q1w s k l,Sound s (s.ships.length - k) k l x
 | 0,_,l,_,_,x,hx=>by
   rw [Q1w,List.mem_singleton] at hx;subst hx;refine ⟨fun b hb=>absurd hb (by simp),fun f _=>⟨rfl,?_,?_⟩⟩
   . unfold Y5k Z7j; simp [X0p]
   . unfold Y6n Z8j; simp [X0p]
 | k + 1,hk,l,hl,hs',x,hx=>by
   have:=X0a hf hk (X4j hf k (by omega)) hl hs' 10 x hx
   rwa [Y6e hf hl (by omega)] at this
theorem X2i (hf:Fine s) (f:List Int -> Bool):∀ k,k <= s.ships.length -> ∀ l,Known s l -> Q6t s (s.ships.length - k) l -> ∃ x ∈ Q1w s k l,Covers s f k l x
 | 0,_,l,_,_=>by
   refine ⟨_,List.mem_singleton.2 rfl,Int.le_refl _,?_,?_⟩
   . unfold Y5k Z7j; simp [X0p]
   . unfold Y6n Z8j; simp [X0p]
 | k + 1,hk,l,hl,hs'=>by
   have:=X3a hf hk (X2i hf f k (by omega)) hl hs' 10
   rwa [Y6e hf hl (by omega)] at this
def X9l (s:Q0b):List Runner:=(List.range s.members.length).map fun i=>⟨i,0,true⟩
theorem Q6q:Known s (X9l s):=by
 intro r hr;obtain ⟨i,hi,rfl⟩:=List.mem_map.1 hr;exact List.mem_range.1 hi
theorem Q8n:Q6t s (s.ships.length - s.ships.length) (X9l s):=by
 intro r _ q _;rw [Nat.sub_self]; simp [hs]
theorem Y4o (hf:Fine s) {x:Plan} (hx:x ∈ Q2j s) (f:List Int -> Bool) (h:∀ i,i < s.members.length -> ∀ u,0 < u -> u <= s.ships.length -> f (hs s i u)=x.closed.contains (Q5x (hs s i u))) :
    Z0n s f s.ships.length (X9l s)=x.weight /\ Y5k s f s.ships.length (X9l s)=x.closings /\ Y6n s f s.ships.length (X9l s)=x.delay :=
 (X4j hf _ (Nat.le_refl _) _ Q6q Q8n x hx).2 f fun r hr u hu hu2=>h _ (Q6q r hr) u (by omega) hu2
theorem Y5s (hf:Fine s) (f:List Int -> Bool):∃ x ∈ Q2j s,Covers s f s.ships.length (X9l s) x:=X2i hf f _ (Nat.le_refl _) _ Q6q Q8n
end Go.Tw
namespace Go.Tw
variable {s:Q0b}
theorem Q9h {α:Type} (p:α -> Bool) (g:α -> Int):∀ l:List α,(l.map fun x=>if p x=true then g x else 0).sum=((l.filter p).map g).sum
 | []=>rfl
 | x :: l=>by
   rw [List.map_cons,List.sum_cons,Q9h p g l,List.filter_cons];cases h:p x <;> simp
theorem Q9m {α β:Type} (d:α) (g:α -> β) (l:List α):l.map g=(List.range l.length).map fun i=>g (l.getD i d):=by
 apply List.ext_getElem (by simp)
 intro i h1 h2;simp only [List.length_map] at h1;simp [h1]
theorem X8u (k:Nat):List.range (k + 1)=0 :: (List.range k).map (· + 1):=List.range_succ_eq_map
def Z2o (s:Q0b) (f:List Int -> Bool) (i:Nat):List Bool:=(List.range s.ships.length).map fun t=>f (hs s i (t + 1))
theorem Z4w (f:List Int -> Bool) (i k:Nat) (hk:k + 1 <= s.ships.length) :
    (Z2o s f i).drop (s.ships.length - (k + 1))=f (hs s i (s.ships.length - k)) :: (Z2o s f i).drop (s.ships.length - k):=by
 have h:s.ships.length - (k + 1) < (Z2o s f i).length:=by simp [Z2o]; omega
 rw [List.drop_eq_getElem_cons h];have e:s.ships.length - (k + 1) + 1=s.ships.length - k:=by omega
 rw [e]
 congr 1
 simp only [Z2o,List.getElem_map,List.getElem_range,e]
theorem Z3n (f:List Int -> Bool):∀ k,k <= s.ships.length -> ∀ x:Runner,Z8w s f k x =
    (x.dry && !(((Q2e s x.member).Q3e (s.ships.length - k) x.level ((Z2o s f x.member).drop (s.ships.length - k))).any fun y=>decide (s.limit < y)))
 | 0,_,x=>by
   rw [Z8w,Nat.sub_zero,List.drop_of_length_le (by simp [Z2o])]
   simp [Mem.Q3e]
 | k + 1,hk,x=>by
   rw [Z8w,Z3n f k (by omega),Z4w f _ k hk]
   have e:s.ships.length - (k + 1) + 1=s.ships.length - k:=by omega
   simp only [mv1,Mem.Q3e,List.any_cons,e];generalize ((Q2e s x.member).stepT (s.ships.length - (k + 1)) x.level (f (hs s x.member (s.ships.length - k)))).1=pk
   by_cases h:pk <= s.limit
   . have h':¬ s.limit < pk:=by omega
     simp [h,h']
   . have h':s.limit < pk:=by omega
     simp [h,h']
theorem Z2i (f:List Int -> Bool) (i:Nat):∀ k,k <= s.ships.length -> Z7j s f k i=((List.range k).map fun j=>if f (hs s i (s.ships.length - k + j + 1)) then (1:Int) else 0).sum
 | 0,_=>rfl
 | k + 1,hk=>by
   rw [Z7j,Z2i f i k (by omega),X8u,List.map_cons,List.sum_cons,List.map_map]
   have e:s.ships.length - (k + 1) + 0 + 1=s.ships.length - k:=by omega
   rw [e]
   congr 2
   apply List.map_congr_left
   intro j _;have e2:s.ships.length - (k + 1) + (j + 1) + 1=s.ships.length - k + j + 1:=by omega
   simp only [Function.comp,e2]
theorem Z3e (f:List Int -> Bool) (i:Nat):∀ k,k <= s.ships.length -> Z8j s f k i=((List.range k).map fun j=>if f (hs s i (s.ships.length - k + j + 1)) then ix s.ships (s.ships.length - k + j) else 0).sum
 | 0,_=>rfl
 | k + 1,hk=>by
   rw [Z8j,Z3e f i k (by omega),X8u,List.map_cons,List.sum_cons,List.map_map]
   have e:s.ships.length - (k + 1) + 0 + 1=s.ships.length - k:=by omega
   rw [e,Nat.add_zero]
   congr 2
   apply List.map_congr_left
   intro j _;have e3:s.ships.length - (k + 1) + (j + 1)=s.ships.length - k + j:=by omega
   simp only [Function.comp,e3]
theorem count_map (g:Nat -> Bool):∀ n:Nat,countB ((List.range n).map g)=((List.range n).map fun j=>if g j then (1:Int) else 0).sum:=by
 have go:∀ l:List Nat,countB (l.map g)=(l.map fun j=>if g j then (1:Int) else 0).sum:=by
  intro l
  induction l with
  | nil=>rfl
  | cons a l ih =>
    unfold countB at ih ⊢;rw [List.map_cons,List.map_cons,List.sum_cons,<- ih,List.countP_cons];cases h:g a
    . simp
    . simp; omega
 intro n; exact go _
theorem Q8o (hf:Fine s) (p:List Rul) {i:Nat} (hi:i < s.members.length):Q0m p (Q2e s i).classes=Z2o s (look p) i:=by
 have h:=(hf.shaped i hi).1;unfold Q0m Z2o hs;show (List.range (Q0c s.members i).length).map _=_;rw [h]; rfl
theorem Z5v (hf:Fine s) (p:List Rul):Z0n s (look p) s.ships.length (X9l s)=Q2c s (Q3r s p):=by
 unfold Z0n X9l Q2c Q3r;rw [List.map_map,List.map_map,<- Q9h]
 congr 1
 apply List.map_congr_left
 intro i hi;have hi':=List.mem_range.1 hi;simp only [Function.comp];rw [Z3n _ _ (Nat.le_refl _),Q8o hf p hi'];simp only [Nat.sub_self,List.drop_zero,Bool.true_and,Mem.keeps,Mem.X3n];rfl
theorem Y3m (hf:Fine s) (p:List Rul):Y5k s (look p) s.ships.length (X9l s)=Q4z s p:=by
 unfold Y5k X9l Q4z;rw [List.map_map,Q9m default _ s.members]
 congr 1
 apply List.map_congr_left
 intro i hi;have hi':=List.mem_range.1 hi;simp only [Function.comp];have:=Q8o hf p hi';unfold Q2e at this;rw [Z2i _ _ _ (Nat.le_refl _),this,Z2o,count_map];simp only [Nat.sub_self,Nat.zero_add];rfl
theorem Z3k (hf:Fine s) (p:List Rul):Y6n s (look p) s.ships.length (X9l s)=X2t s p:=by
 unfold Y6n X9l X2t;rw [List.map_map,Q9m default _ s.members]
 congr 1
 apply List.map_congr_left
 intro i hi;have hi':=List.mem_range.1 hi;simp only [Function.comp];have:=Q8o hf p hi';unfold Q2e at this;rw [Z3e _ _ _ (Nat.le_refl _),this];unfold Q6e Z2o;simp only [Nat.sub_self,Nat.zero_add,List.length_map,List.length_range];show Q0i s.members i * _=_ * _
 congr 2
 apply List.map_congr_left
 intro t ht;have ht':=List.mem_range.1 ht;simp [ht']
end Go.Tw
namespace Go.Tw
variable {s:Q0b}
def pick (need:Int) (b:Option (Int × Int)) (w c d:Int):Option (Int × Int) :=
 if w < need then b else match b with
 | none=>some (c,d)
 | some (x,y)=>if c < x ∨ c=x /\ d < y then some (c,d) else some (x,y)
theorem Y7h (g:List Int -> Bool) (h:List Int):∀ l:List (List Int),h ∈ l -> look (l.map fun x=>⟨x,g x⟩) h=g h
 | [],hh=>absurd hh (by simp)
 | x :: l,hh=>by
   by_cases e:x=h
   . subst e; simp [look]
   . have:=Y7h g h l ((List.mem_cons.1 hh).resolve_left (Ne.symm e))
     unfold look at this ⊢;rw [List.map_cons,List.find?_cons];simp only [show (x == h)=false by simp [e]]
     exact this
theorem Z3l {i u:Nat} (hi:i < s.members.length) (h0:0 < u) (hu:u <= s.ships.length):hs s i u ∈ s.hist :=
 (Q0b.Q4n _ _).2 ⟨u - 1,by omega,i,hi,by rw [hs,Nat.sub_add_cancel h0]⟩
theorem Z5r (hf:Fine s) {x:Plan} (hx:x ∈ Q2j s):Q2c s (Q3r s (X7b s x))=x.weight /\ Q4z s (X7b s x)=x.closings /\ X2t s (X7b s x)=x.delay:=by
 rw [<- Z5v hf,<- Y3m hf,<- Z3k hf];exact Y4o hf hx _ fun i hi u h0 hu=>Y7h _ _ _ (Z3l hi h0 hu)
def Best (need:Int) (l:List (Int × Int × Int)) (r:Option (Int × Int)):Prop:=match r with
 | none=>∀ t ∈ l,t.1 < need
 | some (a,b)=>(∃ t ∈ l,need <= t.1 /\ t.2.1=a /\ t.2.2=b) /\ ∀ t ∈ l,need <= t.1 -> a < t.2.1 ∨ a=t.2.1 /\ b <= t.2.2
theorem Z2n {need:Int} {l:List (Int × Int × Int)} {r:Option (Int × Int)} (h:Best need l r) (w c d:Int):Best need (l ++ [(w,c,d)]) (pick need r w c d):=by
 unfold pick
 by_cases hw:w < need
 . rw [if_pos hw]
   cases r with
   | none => intro t ht; rcases List.mem_append.1 ht with e | e
             . exact h t e
             . rw [List.mem_singleton] at e; subst e; exact hw
   | some p =>
     obtain ⟨⟨t,ht,h1⟩,h2⟩:=h;refine ⟨⟨t,List.mem_append.2 (.inl ht),h1⟩,fun u hu hn=>?_⟩
     rcases List.mem_append.1 hu with e | e
     . exact h2 u e hn
     . rw [List.mem_singleton] at e; subst e; simp only at hn; omega
 . rw [if_neg hw]
   have me:(w,c,d) ∈ l ++ [(w,c,d)]:=List.mem_append.2 (.inr (List.mem_singleton.2 rfl));cases r with
   | none =>
     refine ⟨⟨_,me,by simp only; omega,rfl,rfl⟩,fun u hu hn=>?_⟩
     rcases List.mem_append.1 hu with e | e
     . have:=h u e; omega
     . rw [List.mem_singleton] at e; subst e; exact .inr ⟨rfl,Int.le_refl _⟩
   | some p =>
     obtain ⟨x,y⟩:=p;obtain ⟨⟨t,ht,h1⟩,h2⟩:=h;dsimp only
     by_cases hb:c < x ∨ c=x /\ d < y
     . rw [if_pos hb]
       refine ⟨⟨_,me,by simp only; omega,rfl,rfl⟩,fun u hu hn=>?_⟩
       rcases List.mem_append.1 hu with e | e
       . have:=h2 u e hn; omega
       . rw [List.mem_singleton] at e; subst e; exact .inr ⟨rfl,Int.le_refl _⟩
     . rw [if_neg hb]
       refine ⟨⟨t,List.mem_append.2 (.inl ht),h1⟩,fun u hu hn=>?_⟩
       rcases List.mem_append.1 hu with e | e
       . exact h2 u e hn
       . rw [List.mem_singleton] at e; subst e; simp only; omega
def tri (x:Plan):Int × Int × Int:=(x.weight,x.closings,x.delay)
theorem X7o (need:Int):∀ (l pre:List Plan) (b:Option Plan),Best need (pre.map tri) (b.map fun x=>(x.closings,x.delay)) -> (∀ x,b=some x -> x ∈ pre /\ need <= x.weight) ->
    Best need ((pre ++ l).map tri) ((l.foldl (Q1n need) b).map fun x=>(x.closings,x.delay)) /\ ∀ x,l.foldl (Q1n need) b=some x -> x ∈ pre ++ l /\ need <= x.weight
 | [],pre,b,h,hb=>by rw [List.append_nil]; exact ⟨h,hb⟩
 | x :: l,pre,b,h,hb=>by
   have hp:=Z2n h x.weight x.closings x.delay;have e:pick need (b.map fun x=>(x.closings,x.delay)) x.weight x.closings x.delay=(Q1n need b x).map fun x=>(x.closings,x.delay):=by
    unfold pick Q1n
    by_cases hw:x.weight < need
    . rw [if_pos hw,if_pos hw]
    . rw [if_neg hw,if_neg hw]
      cases b with
      | none=>rfl
      | some o =>
        dsimp only [Option.map_some]
        by_cases hc:x.closings < o.closings ∨ x.closings=o.closings /\ x.delay < o.delay
        . rw [if_pos hc,if_pos hc]; rfl
        . rw [if_neg hc,if_neg hc]; rfl
   rw [e] at hp;have:=X7o need l (pre ++ [x]) (Q1n need b x) (by rw [List.map_append]; exact hp) fun y hy=>by
    unfold Q1n at hy
    by_cases hw:x.weight < need
    . rw [if_pos hw] at hy
      obtain ⟨k1,k2⟩:=hb y hy;exact ⟨List.mem_append.2 (.inl k1),k2⟩
    . rw [if_neg hw] at hy
      have hx:x ∈ pre ++ [x]:=List.mem_append.2 (.inr (List.mem_singleton.2 rfl));cases b with
      | none=>cases hy; exact ⟨hx,by omega⟩
      | some o =>
        dsimp only at hy
        split at hy
        . cases hy; exact ⟨hx,by omega⟩
        . obtain ⟨k1,k2⟩:=hb y hy
          exact ⟨List.mem_append.2 (.inl k1),k2⟩
   rw [List.append_assoc] at this;exact this
theorem Z7o (hf:Fine s) {need:Int} {x:Plan} (h:Y2s s need=some x):need <= x.weight /\ Q2c s (Q3r s (X7b s x))=x.weight /\ Q4z s (X7b s x)=x.closings /\ X2t s (X7b s x)=x.delay:=by
 obtain ⟨-,k⟩:=X7o need (Q2j s) [] none (fun t ht=>absurd ht (by simp)) (fun x hx=>by cases hx)
 obtain ⟨k1,k2⟩:=k x h;exact ⟨k2,Z5r hf (by simpa using k1)⟩
end Go.Tw
namespace Go.Tw
variable {s:Q0b}
theorem Q2n (p:List Rul) (l:List Int):(Q0m p l).length=l.length:=by simp [Q0m]
end Go.Tw
namespace Go.Tw
variable {s:Q0b}
theorem X3w (n t:Nat):(Q5u n t).length=t:=by simp [Q5u]
end Go.Tw
namespace Go.Proofs
open Go.RowKit Go.Tw Go.Flow
theorem Z0u (m:Mem) (l:List Bool) {k:Nat} (hk:k < l.length) (lv:Int):m.Q3e k lv (l.drop k)=(m.stepT k lv (bx l k)).1 :: m.Q3e (k + 1) (m.stepT k lv (bx l k)).2 (l.drop (k + 1)):=by
 rw [Y0u hk]; rfl
theorem X0e (m:Mem):∀ (l:List Bool) (t:Nat) (lv:Int),(m.Q3e t lv l).length=l.length
 | [],_,_=>rfl
 | _ :: l,t,lv=>by
   unfold Mem.Q3e;rw [List.length_cons,List.length_cons,X0e m l]
theorem Z1w (m:Mem) (l:List Bool):(m.X3n l).length=l.length:=X0e m l 0 0
end Go.Proofs
