/- Contracts of the reference: OnlyPolicy, CheckPolicy. Contract of the reference: Alone. Contracts: Weight of the program; what is needed of it. -/
import Derived.Test.YthnobngcipaljaaGreatDoorPn38
import Derived.Test.YthnobngcipaljaaGreatDoorPn05
import Derived.Test.YthnobngcipaljaaGreatDoorPn23
import Derived.Test.YthnobngcipaljaaGreatDoorPn11
import Derived.Test.YthnobngcipaljaaGreatDoorPn09
import Derived.Test.YthnobngcipaljaaGreatDoorPn08
import Derived.Test.YthnobngcipaljaaGreatDoorPn13
import Derived.Test.YthnobngcipaljaaGreatDoorPn21
import Derived.Test.YthnobngcipaljaaGreatDoorPn32
import Derived.Test.YthnobngcipaljaaGreatDoorPn31
set_option maxRecDepth 1000000
set_option maxHeartbeats 64000000
set_option linter.unusedVariables false
set_option linter.unusedSimpArgs false
set_option linter.constructorNameAsVariable false
open Go.Lib (hid)
namespace Go.Proofs
open Go.RowKit Go.Tw Go.Flow
attribute [local go_sem] Oper.semAt_some
theorem J3h {h:List (List Int)} {p:List Rul} (hl:p.length=h.length) (he:∀ j,j < h.length -> Q0n p j=h.getD j []):Q1c h p=0:=by
 rw [Q2l]
 apply List.ext_getElem
 . simpa using hl
 . intro i h1 h2
   have:=he i h2;unfold Q0n at this;rw [Q0t _ h2,Q0t _ (by omega)] at this
   simpa using this
theorem J3m {h:List (List Int)} {p:List Rul} {j:Nat} (hl:p.length=h.length) (hj:j < h.length) (hne:Q0n p j ≠ h.getD j []):Q1c h p=11:=by
 unfold Q1c;rw [if_neg (by simpa using hl),if_pos]
 intro he
 apply hne
 unfold Q0n;rw [Q0t _ hj,Q0t _ (show j < p.length by omega)]
 have:=congrArg (fun l=>l[j]?) he
 simpa [List.getElem?_eq_getElem hj,List.getElem?_eq_getElem (show j < p.length by omega)] using this
theorem J0z {h:List (List Int)} {p:List Rul} (hl:p.length ≠ h.length):Q1c h p=2:=by unfold Q1c; rw [if_pos hl]
theorem Y0i (w:World) (v u:Value) (s:Q0b) (p:List Rul) (hv:Q0f w v s) (hu:Q0j w u p) (he:s.err=0) :
    Calls Tryz.prog 28 #[v,u] w fun e w'=>e=.returned (.int .i64 (Q1c s.hist p)) /\ Ext w w':=by
 have hS:=Q0u.of he;have hhl:=X2v hS;have hhp:=J1j hS;have HVS:=hid hS;have HV:=hid hv;have HERR:=hid he;obtain ⟨a,b,rfl,-⟩:=hv;have ha:∃ A n c,a=.slice A n c:=by obtain ⟨_,_,e,h2⟩:=HV.out; cases e; obtain ⟨A,c,e,-⟩:=h2.ships.opened; exact ⟨A,_,c,e⟩
 have hb:∃ A n c,b=.slice A n c:=by obtain ⟨_,_,e,h2⟩:=HV.out; cases e; obtain ⟨A,c,e,-⟩:=h2.members.opened; exact ⟨A,_,c,e⟩
 obtain ⟨A1,n1,ca1,rfl⟩:=ha;obtain ⟨A2,n2,ca2,rfl⟩:=hb;obtain ⟨R,rfl,hr⟩:=hu;obtain ⟨AR,cr,rfl,-,-,hcr⟩:=hr.opened;have HCR:=hid hcr;obtain ⟨n,hn⟩:∃ n,p.length=n:=⟨_,rfl⟩;have HN:=hid hn;rw [hn] at HCR ⊢;clear hS he hr hcr hn;go_enter Tryz.func28,Tryz.ntmps28;go_wp2_with fail;obtain ⟨W,hWW,k0,k1,HXW,eW⟩:=Q2t w 25 #[.int .i64 s.limit,.slice A1 n1 ca1,.slice A2 n2 ca2] 47 #[.slice AR n cr];rw [hWW];clear hWW;have HV1:=hid (HV.out.ext HXW.out);obtain ⟨gs,hgs⟩:∃ x,w.heap.size=x:=⟨_,rfl⟩;rw [hgs] at k0 k1 eW ⊢;have K1:=hid k1;have c0:=k0.cell 0;have c1:=k0.cell 1;have c2:=k0.cell 2;simp only [Go.Tw.gA,Go.Tw.gB,Go.Tw.gC] at c0 c1 c2;clear k0 k1 hgs;go_wp2_with (go_at_call 44; refine (Y1l _ _ s HV1.out HERR.out).mono ?_; rintro e wh ⟨xh,rfl,hll,hxh⟩; refine halted ?_);have hih:=Z8q HVS.out hll;obtain ⟨AH,ch,rfl,-,-,hch⟩:=hih.opened;obtain ⟨H,hH⟩:∃ x,s.hist.length=x:=⟨_,rfl⟩;have HH:=hid hH;have HCH:=hid hch;rw [hH] at hhl HCH ⊢;have HXA:=hid (HXW.out.trans hxh);have HK1:=hid (K1.out.ext hxh);have d0:wh.cell? ⟨gs + 1,0,none⟩=some (.slice AR n cr):=HK1.out.cell 0;clear hll hih hch hH hhp hxh c0 c1 c2;unfold Q1j
 by_cases hnH:n=H
 . have hI:((n:Int) != (H:Int))=false:=by simp [hnH]
   subst hnH;go_wp2_with fail;clear d0
   go_loopw [6] (fun i wr=>∃ k:Nat,k <= n /\ i=.int .i64 k /\ (∀ j,j < k -> Q0n p j=s.hist.getD j []) /\ Ext wh wr) (fun i _=>n - (intOf i).toNat)
   case atStart=>exact ⟨0,Nat.zero_le _,rfl,fun j h=>absurd h (Nat.not_lt_zero _),Ext.refl _⟩
   case round =>
    obtain ⟨k,hk,rfl,heq,hx0⟩:=hrel;have HEQ:=hid heq;have HX0:=hid hx0;have hxr:Ext w wr:=HXA.out.trans hx0;have HKR:=hid (HK1.out.ext hx0)
    by_cases hlt:k < n
    . have hkI:(k:Int) < n:=by omega
      obtain ⟨b1,o1,x,rfl,-,e0,-,hi1⟩:=HCR.out k hlt;obtain ⟨b2,o2,y,rfl,-,f0,hi2⟩:=HCH.out k hlt;replace e0:=hxr.cell e0;replace f0:=hx0.cell f0;have HSI:=hid (fun (w1:World) (hx:Ext wr w1)=>Q4a w1 _ _ _ _ ((hi1.ext hxr).ext hx) ((hi2.ext hx0).ext hx));obtain ⟨X,capx,rfl,-,-,-⟩:=hi1.opened;obtain ⟨Y,capy,rfl,-,-,-⟩:=hi2.opened;obtain ⟨cp,hcp⟩:∃ c,Q0n p k=c:=⟨_,rfl⟩;obtain ⟨cq,hcq⟩:∃ c,s.hist.getD k []=c:=⟨_,rfl⟩;rw [hcp,hcq] at HSI;rw [hcp] at e0;rw [hcq] at f0;have HCP:=hid hcp;have HCQ:=hid hcq;have HE0:=hid e0;have HF0:=hid f0;obtain ⟨q,hq⟩:∃ d,decide (cp=cq)=d:=⟨_,rfl⟩;have HQ:=hid hq;rw [hq] at HSI;have hdr:=(Ext.refl wr).drew;clear heq hx0 hxr hi1 hi2 hcp hcq e0 f0 hq;obtain ⟨wq,rfl⟩:∃ Z,Z=wr:=⟨_,rfl⟩;go_wp2_with fail;refine Flow.Q1d [.p,.w,.p,.p,.p,.w,.p,.p,.p,.w,.w,.p] [0,1,2,3,4,5,6,7,8,9,10,11] [[],[0],[],[1,2],[3],[4],[],[],[6,7],[8],[5,9],[10]]
       [.c 0 (.pointer (some ⟨gs + 1,0,none⟩)),.c 1 (.slice (some ⟨b1,o1,none⟩) n cr),.c 2 (.int .i64 (k:Int)),.c 3 (.pointer (some ⟨b1,o1 + k * 2,none⟩)),.c 4 (.pointer (some ⟨b1,o1 + k * 2,none⟩)),.c 5 (.slice X cp.length capx),.c 6 (.slice (some ⟨b2,o2,none⟩) n ch),.c 7 (.int .i64 (k:Int)),.c 8 (.pointer (some ⟨b2,o2 + k,none⟩)),.c 9 (.slice Y cq.length capy),.c 10 (.bool q),.c 11 (.bool (!q))]
       (by kernel_rfl) rfl (by kernel_rfl) ⟨?g0,?g1,?g2,?g3,?g4,?g5,?g6,?g7,?g8,?g9,?g10,?g11,trivial⟩ ?post
      case g0 | g2 | g6 | g7=>
       intro v w1 hx;intro bb hbb;subst hbb;refine ⟨_,fun w=>?_,rfl⟩;go_simp
      case g1=>
       intro v w1 hx;(repeat intro (zq:v _=_));intro bb hbb;subst hbb;have n0:w1.cell? ⟨gs + 1,0,none⟩=some (.slice (some ⟨b1,o1,none⟩) n cr):=(HKR.out.ext (hdr.trans hx)).cell 0;intro K hK;go_simp;exact hK _ _ (Ext.refl _) rfl
      case g3 | g4 | g8 | g11=>
       intro v w1 hx;(repeat intro (zq:v _=_));intro bb hbb;subst hbb;refine ⟨_,fun w=>?_,rfl⟩;go_simp
      case g5=>
       intro v w1 hx;(repeat intro (zq:v _=_));intro bb hbb;subst hbb;have n0:=(hdr.trans hx).cell HE0.out;intro K hK;go_simp;exact hK _ _ (Ext.refl _) rfl
      case g9=>
       intro v w1 hx;(repeat intro (zq:v _=_));intro bb hbb;subst hbb;have n0:=(hdr.trans hx).cell HF0.out;intro K hK;go_simp;exact hK _ _ (Ext.refl _) rfl
      case g10=>
       intro v w1 hx;(repeat intro (zq:v _=_));intro bb hbb;subst hbb;intro K hK;go_simp;refine Q0d (HSI.out w1 (hdr.trans hx)) ?_;rintro e w2 ⟨rfl,hx2⟩;exact ⟨_,rfl,hK _ _ hx2 rfl⟩
      case post =>
       intro v w1 hx;(iterate 12 intro (zq:v _=_));simp only [Flow.All,Flow.acts,Act.put];go_simp;have HX6:=hid (HX0.out.trans (hdr.trans hx));clear hx hdr;(repeat clear zq);cases q with
       | false =>
         have hne:Q1c s.hist p=11:=J3m (by rw [HN.out,HH.out]) (by rw [HH.out]; exact hlt) (by rw [HCP.out,HCQ.out]; exact of_decide_eq_false HQ.out)
         have HR:=hid hne;clear hne;go_wp2;go_ret;exact ⟨by rw [HR.out] <;> rfl,HXA.out.trans HX6.out⟩
       | true =>
         have hke:Q0n p k=s.hist.getD k []:=by rw [HCP.out,HCQ.out]; exact of_decide_eq_true HQ.out
         have HKE:=hid hke;clear hke;go_wp2;go_roundw
         case rel=>exact ⟨k + 1,by omega,by go_num,(fun j hj=>by
          rcases Nat.lt_or_ge j k with h | h
          . exact HEQ.out j h
          . have e:j=k:=by omega
            subst e; exact HKE.out),HX6.out⟩
         case measure=>simp [intOf]; omega
    . have hkI:¬ (k:Int) < n:=by omega
      have hkn:k=n:=by omega
      have hr0:Q1c s.hist p=0:=J3h (by rw [HN.out,HH.out]) (by rw [HH.out,<- hkn]; exact heq)
      have HR:=hid hr0;clear heq hr0;go_wp2;go_ret;exact ⟨by rw [HR.out] <;> rfl,hxr⟩
 . have hI:((n:Int) != (H:Int))=true:=by simp; omega
   have HR:Hid (Q1c s.hist p=2):=hid (J0z (by rw [HN.out,HH.out]; exact hnH))
   clear hnH;go_wp2;go_ret;exact ⟨by rw [HR.out] <;> rfl,HXA.out⟩
theorem X7f (w:World) (v u:Value) (s:Q0b) (p:List Rul) (hv:Q0f w v s) (hu:Q0j w u p) :
    Calls Tryz.prog 58 #[v,u] w fun e w'=>e=.returned (.int .i64 (Q1i s p)) /\ Ext w w':=by
 have HV:=hid hv;have HU:=hid hu;obtain ⟨a,b,rfl,-⟩:=hv;have ha:∃ A n c,a=.slice A n c:=by obtain ⟨_,_,e,h2⟩:=HV.out; cases e; obtain ⟨A,c,e,-⟩:=h2.ships.opened; exact ⟨A,_,c,e⟩
 have hb:∃ A n c,b=.slice A n c:=by obtain ⟨_,_,e,h2⟩:=HV.out; cases e; obtain ⟨A,c,e,-⟩:=h2.members.opened; exact ⟨A,_,c,e⟩
 obtain ⟨A1,n1,ca1,rfl⟩:=ha;obtain ⟨A2,n2,ca2,rfl⟩:=hb;obtain ⟨R,rfl,hr⟩:=hu;obtain ⟨AR,cr,rfl,-,-,-⟩:=hr.opened;obtain ⟨n,hn⟩:∃ n,p.length=n:=⟨_,rfl⟩;rw [hn] at HU ⊢;clear hr hn;go_enter Tryz.func58,Tryz.ntmps58;go_wp2_with fail;obtain ⟨W,hWW,k0,k1,HXW,eW⟩:=Q2t w 25 #[.int .i64 s.limit,.slice A1 n1 ca1,.slice A2 n2 ca2] 47 #[.slice AR n cr];rw [hWW];clear hWW;have HV1:=hid (HV.out.ext HXW.out);have HU1:=hid (HU.out.ext HXW.out);obtain ⟨gs,hgs⟩:∃ x,w.heap.size=x:=⟨_,rfl⟩;rw [hgs] at k0 k1 eW ⊢;have K0:=hid k0;have K1:=hid k1;have c0:=k0.cell 0;have c1:=k0.cell 1;have c2:=k0.cell 2;simp only [Go.Tw.gA,Go.Tw.gB,Go.Tw.gC] at c0 c1 c2;clear k0 k1 hgs;go_wp2_with (go_at_call 16; refine (Q8s _ _ s HV1.out).mono ?_; rintro e w2 ⟨rfl,hx2⟩; refine halted ?_);clear c0 c1 c2;have c0:=(K0.out.ext hx2).cell 0;have c1:=(K0.out.ext hx2).cell 1;have c2:=(K0.out.ext hx2).cell 2;have c3:=(K1.out.ext hx2).cell 0;simp only [Go.Tw.gA,Go.Tw.gB,Go.Tw.gC] at c0 c1 c2 c3;have HX2:=hid hx2;have HXA:=hid (HXW.out.trans hx2);clear hx2;unfold Q1j
 by_cases he:s.err=0
 . have HE:=hid he
   have HP:Hid (Q1i s p=Q1c s.hist p):=hid (by unfold Q1i; rw [if_neg (by simpa using he)])
   have hI:(s.err != 0)=false:=by simp [he]
   rw [he] at hI ⊢;go_wp2_with (go_at_call 28; refine (Y0i _ _ _ s p (HV1.out.ext HX2.out) (HU1.out.ext HX2.out) HE.out).mono ?_; rintro e w3 ⟨rfl,hx3⟩);go_ret;exact ⟨by rw [HP.out] <;> rfl,HXA.out.trans hx3⟩
 . have HP:Hid (Q1i s p=s.err):=hid (by unfold Q1i; rw [if_pos he])
   obtain ⟨E,hE⟩:∃ E,s.err=E:=⟨_,rfl⟩;rw [hE] at he HP ⊢;have hI:(E != 0)=true:=by simp [he]
   go_wp2;go_ret;exact ⟨by rw [HP.out] <;> rfl,HXA.out⟩
end Go.Proofs
namespace Go.Proofs
open Go.RowKit Go.Tw Go.Flow
attribute [local go_sem] Oper.semAt_some
def J0g (w:World) (x:Value) (o:Option (List Bool)):Prop:=match o with
 | none=>x=.slice none 0 0
 | some b=>Q0r w x b
theorem J0g.ext {w w':World} {x:Value} {o:Option (List Bool)} (h:J0g w x o) (hx:Ext w w'):J0g w' x o:=by
 cases o with
 | none=>exact h
 | some b=>exact Q0r.ext h hx
def J6f (o:Option (List Bool)):Int:=match o with | some _=>0 | none=>24
def J1y (o:Option (List Bool)):Int:=match o with | some b=>countB b | none=>0
theorem Z5k (w:World) (v:Value) (s:Q0b) (i:Nat) (hv:Q0f w v s) (hvs:Q0u s) (him:i < s.members.length) :
    Calls Tryz.prog 52 #[v,.int .i64 (i:Int)] w fun e w'=>∃ x,e=.returned (.tuple #[x,.int .i64 (J1y (alone s i)),.int .i64 (J6f (alone s i))]) /\ Q0r w' x ((alone s i).getD []) /\ Ext w w':=by
 obtain ⟨a,b,rfl,h2⟩:=hv;obtain ⟨A,capa,rfl,-,-,-⟩:=h2.ships.opened;obtain ⟨B,capb,rfl,-,-,-⟩:=h2.members.opened;have H2:=hid h2;have HV:=hid hvs;have hok:=X3i hvs him (Nat.le_refl _);have hT6:=hvs.tides;obtain ⟨T,hT⟩:∃ T,s.ships.length=T:=⟨_,rfl⟩;have HT:=hid hT;have HAL:Hid (alone s i=(Q1q s i).Q3r s.limit T (2 ^ T)):=hid (by rw [<- hT]; rfl)
 rw [hT] at hok hT6;have HOK:=hid hok;have hin:∀ x ∈ (Q1q s i).inflow,0 <= x /\ x <= 1024:=hvs.inflow i him;obtain ⟨m,hm⟩:∃ m,Q1q s i=m:=⟨_,rfl⟩;rw [hm] at hin;have HIN:=hid hin;clear hin;have HM:=hid hm;rw [hm] at HAL HOK;obtain ⟨lim,hlim⟩:∃ l,s.limit=l:=⟨_,rfl⟩;have HLIM:=hid hlim;rw [hlim] at HAL;have HSEA:Hid (∀ W,Ext w W -> Q0f W (.agg #[.int .i64 lim,.slice A T capa,.slice B s.members.length capb]) s):=hid (fun W hW=>⟨_,_,by rw [hlim],by rw [<- hT]; exact h2.ext hW⟩)
 have HFO:=hid (fun (W:World) (u:Value) (l:List Bool) (hW:Ext w W) (hu:Q0r W u l) (hl:l.length=T)=>(by
  have h:=X9r W _ u s i l (HSEA.out W hW) him hu (by omega) (by rw [hl,hm]; exact HOK.out.out) (by rw [hl,hm]; exact HOK.out.inf) (by rw [hm]; exact HIN.out)
  rw [hm] at h; exact h:Calls Tryz.prog 51 #[.agg #[.int .i64 lim,.slice A T capa,.slice B s.members.length capb],.int .i64 (i:Int),u] W fun e w'=>∃ x,e=.returned x /\ Q0e w' x (m.Q3z l) /\ Ext W w'))
 have HDR:=hid (fun (W:World) (u:Value) (l:List Int) (hW:Ext w W) (hu:Q0e W u l)=>(by
  have h:=Y4w W _ u s l (HSEA.out W hW) hu;rw [hlim] at h; exact h:Calls Tryz.prog 104 #[.agg #[.int .i64 lim,.slice A T capa,.slice B s.members.length capb],u] W fun e w'=>e=.returned (.bool (Z0v lim l)) /\ Ext W w'))
 rw [hlim,hT];have p1:=J2h (n:=T) (by omega)
 obtain ⟨N,hN⟩:∃ N,2 ^ T=N:=⟨_,rfl⟩;rw [hN] at p1 HAL;have hN2:N <= 256:=by rw [<- hN]; exact Nat.pow_le_pow_right (n:=2) (by omega) (by omega:T <= 8)
 obtain ⟨M,hMM⟩:∃ M,s.members.length=M:=⟨_,rfl⟩;rw [hMM] at HFO HDR ⊢;clear h2 hvs hok hT hm hlim hN hMM him;go_enter Tryz.func52,Tryz.ntmps52;go_wp2_with fail;obtain ⟨W,hWW,k0,HXW,eW⟩:=Q1u w 25 #[.int .i64 lim,.slice A T capa,.slice B M capb];rw [hWW];clear hWW;obtain ⟨gs,hgs⟩:∃ x,w.heap.size=x:=⟨_,rfl⟩;rw [hgs] at k0 ⊢;have K0:=hid k0;clear k0 hgs eW
 go_loopw [7,8,9] (fun x f c wr=>∃ (n:Nat) (o:Option (List Bool)),n <= N /\ c=.int .i64 n /\ f=.bool o.isSome /\ J0g wr x o /\ o=m.Q3r lim T n /\ Ext W wr) (fun _ _ c _=>N - (intOf c).toNat)
 case atStart=>exact ⟨0,none,Nat.zero_le _,rfl,rfl,rfl,rfl,Ext.refl _⟩
 case round =>
  obtain ⟨n,o,hn,rfl,rfl,hbb,ho,hx0⟩:=hrel;have c1:wr.cell? ⟨gs,1,none⟩=some (.slice A T capa):=(K0.out.ext hx0).cell 1;have HX0:=hid hx0;have HBB:=hid hbb;have HO:=hid ho;clear hx0 ho
  by_cases hlt:n < N
  . have hnI:(n:Int) < N:=by omega
    have HCD:=hid (Z3q wr n T (by omega) (by omega))
    clear hbb;obtain ⟨wq,rfl⟩:∃ Z,Z=wr:=⟨_,rfl⟩;go_wp2_with (go_at_call 130; refine HCD.out.mono ?_; rintro e w3 ⟨xc,rfl,hc,hx3⟩; refine halted ?_);have hcl:=X0h n T;have hno:=Y2i (m:=m) (lim:=lim) (T:=T) (n:=n);have hnew:=X8x (m:=m) (lim:=lim) (T:=T) (n:=n);have hless:=fun b=>X6c (m:=m) (lim:=lim) (T:=T) (n:=n) (b:=b);obtain ⟨cl,hcle⟩:∃ c,Q5g n T=c:=⟨_,rfl⟩;rw [hcle] at hc hcl hno hnew hless;rw [Z7p] at hno hnew hless;have HC:=hid hc;have HCL:=hid hcl;have HX3:=hid (HX0.out.trans hx3);have HXW3:=hid (HXW.out.trans (HX0.out.trans hx3));have HB3:=hid (HBB.out.ext hx3);have HK3:=hid (K0.out.ext (HX0.out.trans hx3));obtain ⟨dr,hdr0⟩:∃ d,Z0v lim (m.Q3z cl)=d:=⟨_,rfl⟩;have HDD:=hid hdr0;rw [hdr0] at hno hnew hless;have hdr:=(Ext.refl w3).drew;clear hc hcle hcl hx3 c1 hdr0;unfold Q1j;cases dr with
    | false =>
      have HNX:=hid (hno rfl);clear hno hnew hless;go_wp2_with fail;refine Flow.Q1d [.w,.w,.p,.p,.w,.w,.p,.p,.p,.p,.p,.w,.p,.w,.p,.p,.p] [0,1,2,3,4,5,6,7,8,9,10,11,12,13,14,15,16] [[],[],[],[],[1,2,3],[0,4],[5],[6],[6,7],[6,8],[9],[9,10],[9],[9,11,12],[9,11,13],[6,9,14],[6,15]]
       [.c 0 (.agg #[.int .i64 lim,.slice A T capa,.slice B M capb]),.c 1 (.agg #[.int .i64 lim,.slice A T capa,.slice B M capb]),.c 2 (.int .i64 (i:Int)),.c 3 (xc),⟨fun v wz=>(fun v w'=>Q0e w' (v 4) (m.Q3z cl)) v wz,by intro v a b hx h; exact Q0e.ext h hx⟩,.c 5 (.bool false),.c 6 (.bool false),.c 7 (undef),.c 8 (undef),.c 9 (undef),.c 10 (undef),.c 11 (undef),.c 12 (undef),.c 13 (undef),.c 14 (undef),.c 15 (undef),.c 16 (.bool false)]
       (by kernel_rfl) rfl (by kernel_rfl) ⟨?g0,?g1,?g2,?g3,?g4,?g5,?g6,?g7,?g8,?g9,?g10,?g11,?g12,?g13,?g14,?g15,?g16,trivial⟩ ?post
      case g0 | g1=>
       intro v w1 hx;intro bb hbb;intro K hK;have o1:bb.eval (.tmp 2)=.pointer (some ⟨gs,0,none⟩):=by rw [hbb]; dsimp only; (try simp (discharger:=decide) only [eval_put_ne]); rfl
       exact Q0g (.tmp 2) _ rfl Tryz.Q5h Tryz.Q3p o1 (HK3.out.ext (hdr.trans hx)) rfl (hK _ _ (Ext.refl _) rfl)
      case g2 | g3=>
       intro v w1 hx;intro bb hbb;subst hbb;refine ⟨_,fun w=>?_,rfl⟩;go_simp
      case g4=>
       intro v w1 hx;(repeat intro (zq:v _=_));intro bb hbb;subst hbb;intro K hK;go_simp;refine Q0d (HFO.out w1 _ cl (HXW3.out.trans (hdr.trans hx)) (HC.out.ext (hdr.trans hx)) HCL.out) ?_;rintro e w2 ⟨x,rfl,h1,hx2⟩;exact ⟨_,rfl,hK _ _ hx2 h1⟩
      case g5=>
       intro v w1 hx (q0:v 0=_) (q4:(fun v w'=>Q0e w' (v 4) (m.Q3z cl)) v w1);intro bb hbb;subst hbb;intro K hK;go_simp;refine Q0d (HDR.out w1 _ _ (HXW3.out.trans (hdr.trans hx)) q4) ?_;rintro e w2 ⟨rfl,hx2⟩;exact ⟨_,rfl,hK _ _ hx2 (congrArg Value.bool HDD.out)⟩
      case g6 | g16=>
       intro v w1 hx;(repeat intro (zq:v _=_));intro bb hbb;subst hbb;refine ⟨_,fun w=>?_,rfl⟩;go_simp
      case g7 | g8 | g9 | g15=>
       intro v w1 hx;(repeat intro (zq:v _=_));intro bb hbb;exact Flow.Q1h (d:=30) rfl rfl (by rw [hbb]; simp only [size_put]; exact (by decide:30 < 47)) (by rw [hbb]; dsimp only; (try simp (discharger:=decide) only [eval_put_ne]); rw [Q0a (by simp only [size_put]; exact (by decide:30 < 47))]; assumption) rfl
      case g10 | g11 | g12 | g13 | g14=>
       intro v w1 hx;(repeat intro (zq:v _=_));intro bb hbb;exact Flow.X2u (d:=33) rfl rfl (by rw [hbb]; simp only [size_put]; exact (by decide:33 < 47)) (by rw [hbb]; dsimp only; (try simp (discharger:=decide) only [eval_put_ne]); rw [Q0a (by simp only [size_put]; exact (by decide:33 < 47))]; assumption) rfl
      case post =>
       intro v w1 hx;(iterate 4 intro (zq:v _=_));intro (q4:(fun v w'=>Q0e w' (v 4) (m.Q3z cl)) v w1);(iterate 12 intro (zq:v _=_));simp only [Flow.All,Flow.acts,Act.put];go_simp;have HX7:=hid (HX3.out.trans (hdr.trans hx));have HB7:=hid (HB3.out.ext (hdr.trans hx));clear hx hdr q4;(repeat clear zq);go_wp2;go_roundw
       case rel=>exact ⟨n + 1,o,by omega,by go_num,rfl,HB7.out,by rw [HNX.out]; exact HO.out,HX7.out⟩
       case measure=>simp [intOf]; omega
    | true =>
      cases o with
      | none =>
        have HNX:=hid (hnew rfl HO.out.symm);have hbv:u7=.slice none 0 0:=HB3.out;subst hbv;clear hno hnew hless;go_wp2_with fail;refine Flow.Q1d [.w,.w,.p,.p,.w,.w,.p,.p,.p,.p,.p,.w,.p,.w,.p,.p,.p] [0,1,2,3,4,5,6,7,8,9,10,11,12,13,14,15,16] [[],[],[],[],[1,2,3],[0,4],[5],[6],[6,7],[6,8],[9],[9,10],[9],[9,11,12],[9,11,13],[6,9,14],[6,15]]
         [.c 0 (.agg #[.int .i64 lim,.slice A T capa,.slice B M capb]),.c 1 (.agg #[.int .i64 lim,.slice A T capa,.slice B M capb]),.c 2 (.int .i64 (i:Int)),.c 3 (xc),⟨fun v wz=>(fun v w'=>Q0e w' (v 4) (m.Q3z cl)) v wz,by intro v a b hx h; exact Q0e.ext h hx⟩,.c 5 (.bool true),.c 6 (.bool true),.c 7 (.bool false),.c 8 (.bool true),.c 9 (.bool true),.c 10 (undef),.c 11 (undef),.c 12 (undef),.c 13 (undef),.c 14 (undef),.c 15 (.bool true),.c 16 (.bool true)]
         (by kernel_rfl) rfl (by kernel_rfl) ⟨?g0,?g1,?g2,?g3,?g4,?g5,?g6,?g7,?g8,?g9,?g10,?g11,?g12,?g13,?g14,?g15,?g16,trivial⟩ ?post
        case g0 | g1=>
         intro v w1 hx;intro bb hbb;intro K hK;have o1:bb.eval (.tmp 2)=.pointer (some ⟨gs,0,none⟩):=by rw [hbb]; dsimp only; (try simp (discharger:=decide) only [eval_put_ne]); rfl
         exact Q0g (.tmp 2) _ rfl Tryz.Q5h Tryz.Q3p o1 (HK3.out.ext (hdr.trans hx)) rfl (hK _ _ (Ext.refl _) rfl)
        case g2 | g3=>
         intro v w1 hx;intro bb hbb;subst hbb;refine ⟨_,fun w=>?_,rfl⟩;go_simp
        case g4=>
         intro v w1 hx;(repeat intro (zq:v _=_));intro bb hbb;subst hbb;intro K hK;go_simp;refine Q0d (HFO.out w1 _ cl (HXW3.out.trans (hdr.trans hx)) (HC.out.ext (hdr.trans hx)) HCL.out) ?_;rintro e w2 ⟨x,rfl,h1,hx2⟩;exact ⟨_,rfl,hK _ _ hx2 h1⟩
        case g5=>
         intro v w1 hx (q0:v 0=_) (q4:(fun v w'=>Q0e w' (v 4) (m.Q3z cl)) v w1);intro bb hbb;subst hbb;intro K hK;go_simp;refine Q0d (HDR.out w1 _ _ (HXW3.out.trans (hdr.trans hx)) q4) ?_;rintro e w2 ⟨rfl,hx2⟩;exact ⟨_,rfl,hK _ _ hx2 (congrArg Value.bool HDD.out)⟩
        case g6 | g16=>
         intro v w1 hx;(repeat intro (zq:v _=_));intro bb hbb;subst hbb;refine ⟨_,fun w=>?_,rfl⟩;go_simp
        case g7 | g8 | g9 | g15=>
         intro v w1 hx;(repeat intro (zq:v _=_));intro bb hbb;refine Flow.Q0o (d:=30) rfl rfl (by rw [hbb]; simp only [size_put]; exact (by decide:30 < 47)) (by rw [hbb]; dsimp only; (try simp (discharger:=decide) only [eval_put_ne]); rw [Q0a (by simp only [size_put]; exact (by decide:30 < 47))]; assumption) ?_
         subst hbb;refine ⟨_,fun w=>?_,rfl⟩;go_simp
        case g10 | g11 | g12 | g13 | g14=>
         intro v w1 hx;(repeat intro (zq:v _=_));intro bb hbb;exact Flow.Q1h (d:=33) rfl rfl (by rw [hbb]; simp only [size_put]; exact (by decide:33 < 47)) (by rw [hbb]; dsimp only; (try simp (discharger:=decide) only [eval_put_ne]); rw [Q0a (by simp only [size_put]; exact (by decide:33 < 47))]; assumption) rfl
        case post =>
         intro v w1 hx;(iterate 4 intro (zq:v _=_));intro (q4:(fun v w'=>Q0e w' (v 4) (m.Q3z cl)) v w1);(iterate 12 intro (zq:v _=_));simp only [Flow.All,Flow.acts,Act.put];go_simp;have HX7:=hid (HX3.out.trans (hdr.trans hx));have HC7:=hid (HC.out.ext (hdr.trans hx));clear hx hdr q4;(repeat clear zq);go_wp2;go_roundw
         case rel=>exact ⟨n + 1,some cl,by omega,by go_num,rfl,HC7.out,HNX.out.symm,HX7.out⟩
         case measure=>simp [intOf]; omega
      | some b =>
        obtain ⟨q,hq⟩:∃ q,decide (countB cl < countB b)=q:=⟨_,rfl⟩;have HNX:=hid (hless b rfl HO.out.symm q hq);have HQ:=hid hq;have HBV:Hid (Q0r w3 u7 b):=hid HB3.out;clear hno hnew hless hq;go_wp2_with fail;refine Flow.Q1d [.w,.w,.p,.p,.w,.w,.p,.p,.p,.p,.p,.w,.p,.w,.p,.p,.p] [0,1,2,3,4,5,6,7,8,9,10,11,12,13,14,15,16] [[],[],[],[],[1,2,3],[0,4],[5],[6],[6,7],[6,8],[9],[9,10],[9],[9,11,12],[9,11,13],[6,9,14],[6,15]]
         [.c 0 (.agg #[.int .i64 lim,.slice A T capa,.slice B M capb]),.c 1 (.agg #[.int .i64 lim,.slice A T capa,.slice B M capb]),.c 2 (.int .i64 (i:Int)),.c 3 (xc),⟨fun v wz=>(fun v w'=>Q0e w' (v 4) (m.Q3z cl)) v wz,by intro v a b hx h; exact Q0e.ext h hx⟩,.c 5 (.bool true),.c 6 (.bool true),.c 7 (.bool true),.c 8 (.bool false),.c 9 (.bool false),.c 10 (xc),.c 11 (.int .i64 (countB cl)),.c 12 (u7),.c 13 (.int .i64 (countB b)),.c 14 (.bool (decide (countB cl < countB b))),.c 15 (.bool (decide (countB cl < countB b))),.c 16 (.bool (decide (countB cl < countB b)))]
         (by kernel_rfl) rfl (by kernel_rfl) ⟨?g0,?g1,?g2,?g3,?g4,?g5,?g6,?g7,?g8,?g9,?g10,?g11,?g12,?g13,?g14,?g15,?g16,trivial⟩ ?post
        case g0 | g1=>
         intro v w1 hx;intro bb hbb;intro K hK;have o1:bb.eval (.tmp 2)=.pointer (some ⟨gs,0,none⟩):=by rw [hbb]; dsimp only; (try simp (discharger:=decide) only [eval_put_ne]); rfl
         exact Q0g (.tmp 2) _ rfl Tryz.Q5h Tryz.Q3p o1 (HK3.out.ext (hdr.trans hx)) rfl (hK _ _ (Ext.refl _) rfl)
        case g2 | g3=>
         intro v w1 hx;intro bb hbb;subst hbb;refine ⟨_,fun w=>?_,rfl⟩;go_simp
        case g4=>
         intro v w1 hx;(repeat intro (zq:v _=_));intro bb hbb;subst hbb;intro K hK;go_simp;refine Q0d (HFO.out w1 _ cl (HXW3.out.trans (hdr.trans hx)) (HC.out.ext (hdr.trans hx)) HCL.out) ?_;rintro e w2 ⟨x,rfl,h1,hx2⟩;exact ⟨_,rfl,hK _ _ hx2 h1⟩
        case g5=>
         intro v w1 hx (q0:v 0=_) (q4:(fun v w'=>Q0e w' (v 4) (m.Q3z cl)) v w1);intro bb hbb;subst hbb;intro K hK;go_simp;refine Q0d (HDR.out w1 _ _ (HXW3.out.trans (hdr.trans hx)) q4) ?_;rintro e w2 ⟨rfl,hx2⟩;exact ⟨_,rfl,hK _ _ hx2 (congrArg Value.bool HDD.out)⟩
        case g6 | g16=>
         intro v w1 hx;(repeat intro (zq:v _=_));intro bb hbb;subst hbb;refine ⟨_,fun w=>?_,rfl⟩;go_simp
        case g7 | g8 | g9 | g15=>
         intro v w1 hx;(repeat intro (zq:v _=_));intro bb hbb;refine Flow.Q0o (d:=30) rfl rfl (by rw [hbb]; simp only [size_put]; exact (by decide:30 < 47)) (by rw [hbb]; dsimp only; (try simp (discharger:=decide) only [eval_put_ne]); rw [Q0a (by simp only [size_put]; exact (by decide:30 < 47))]; assumption) ?_
         subst hbb;refine ⟨_,fun w=>?_,rfl⟩;go_simp
        case g10 | g12 | g14=>
         intro v w1 hx;(repeat intro (zq:v _=_));intro bb hbb;refine Flow.Q0o (d:=33) rfl rfl (by rw [hbb]; simp only [size_put]; exact (by decide:33 < 47)) (by rw [hbb]; dsimp only; (try simp (discharger:=decide) only [eval_put_ne]); rw [Q0a (by simp only [size_put]; exact (by decide:33 < 47))]; assumption) ?_
         subst hbb;refine ⟨_,fun w=>?_,rfl⟩;go_simp
        case g11=>
         intro v w1 hx;(repeat intro (zq:v _=_));intro bb hbb;refine Flow.Q0o (d:=33) rfl rfl (by rw [hbb]; simp only [size_put]; exact (by decide:33 < 47)) (by rw [hbb]; dsimp only; (try simp (discharger:=decide) only [eval_put_ne]); rw [Q0a (by simp only [size_put]; exact (by decide:33 < 47))]; assumption) ?_
         subst hbb;intro K hK;go_simp;refine Q0d (Q7o w1 _ cl (HC.out.ext (hdr.trans hx))) ?_;rintro e w2 ⟨rfl,hx2⟩;exact ⟨_,rfl,hK _ _ hx2 rfl⟩
        case g13=>
         intro v w1 hx;(repeat intro (zq:v _=_));intro bb hbb;refine Flow.Q0o (d:=33) rfl rfl (by rw [hbb]; simp only [size_put]; exact (by decide:33 < 47)) (by rw [hbb]; dsimp only; (try simp (discharger:=decide) only [eval_put_ne]); rw [Q0a (by simp only [size_put]; exact (by decide:33 < 47))]; assumption) ?_
         subst hbb;intro K hK;go_simp;refine Q0d (Q7o w1 _ b (HBV.out.ext (hdr.trans hx))) ?_;rintro e w2 ⟨rfl,hx2⟩;exact ⟨_,rfl,hK _ _ hx2 rfl⟩
        case post =>
         intro v w1 hx;(iterate 4 intro (zq:v _=_));intro (q4:(fun v w'=>Q0e w' (v 4) (m.Q3z cl)) v w1);(iterate 12 intro (zq:v _=_));simp only [Flow.All,Flow.acts,Act.put];go_simp;rw [HQ.out];have HX7:=hid (HX3.out.trans (hdr.trans hx));have HC7:=hid (HC.out.ext (hdr.trans hx));have HB7:=hid (HBV.out.ext (hdr.trans hx));clear hx hdr q4;(repeat clear zq);cases q with
         | false =>
           go_wp2;go_roundw
           case rel=>exact ⟨n + 1,some b,by omega,by go_num,rfl,HB7.out,HNX.out.symm,HX7.out⟩
           case measure=>simp [intOf]; omega
         | true =>
           go_wp2;go_roundw
           case rel=>exact ⟨n + 1,some cl,by omega,by go_num,rfl,HC7.out,HNX.out.symm,HX7.out⟩
           case measure=>simp [intOf]; omega
  . have hnI:¬ (n:Int) < N:=by omega
    have hnN:n=N:=by omega
    subst hnN;have hal:alone s i=o:=by rw [HAL.out,<- HO.out]
    have HAO:=hid hal;have HXR:=hid (HXW.out.trans HX0.out);clear hal;cases o with
    | none =>
      clear hbb;go_wp2
      go_ret3
      exact ⟨_,by rw [HAO.out]; rfl,by rw [HAO.out]; exact Go.Tw.Rows.nil _ _ _,HXR.out⟩
    | some b =>
      have HBV:Hid (Q0r wr u7 b):=hid HBB.out;clear hbb;go_wp2_with (go_at_call 105; refine (Q7o wr _ b HBV.out).mono ?_; rintro e w6 ⟨rfl,hx6⟩)
      go_ret3
      exact ⟨u7,by rw [HAO.out]; rfl,by rw [HAO.out]; exact HBV.out.ext hx6,HXR.out.trans hx6⟩
end Go.Proofs
namespace Go.Proofs
open Go.RowKit Go.Tw Go.Flow
attribute [local go_sem] Oper.semAt_some
def pwE (s:Q0b) (l:List Int):Int:=if s.err ≠ 0 then s.err else Q3t s l
def pwN (s:Q0b) (l:List Int):Int:=if pwE s l=0 then Q1k s l else 0
theorem Y2y {s:Q0b} {l:List Int} (h:Q3t s l=0):(∀ x ∈ l,0 <= x /\ x < s.members.length) /\ l.length <= 8:=by
 obtain ⟨h1,h2⟩:=Y7v.1 h;refine ⟨fun x hx=>?_,h1⟩;obtain ⟨j,hj,rfl⟩:=List.getElem_of_mem hx;have:=(h2 j hj).1;rw [Q4n hj] at this;exact this
theorem Z1j (w:World) (v u:Value) (s:Q0b) (l:List Int) (hv:Q0f w v s) (hs:Q3x s) (hu:Q0e w u l) :
    Calls Tryz.prog 62 #[v,u] w fun e w'=>e=.returned (.tuple #[.int .i64 (pwN s l),.int .i64 (pwE s l)]) /\ Ext w w':=by
 obtain ⟨a,b,rfl,h2⟩:=hv;obtain ⟨A,capa,rfl,-,-,-⟩:=h2.ships.opened;obtain ⟨B,capb,rfl,-,-,-⟩:=h2.members.opened;have H2:=hid h2;have HS:=hid hs;have HU:=hid hu;have HPE:Hid (pwE s l=if s.err ≠ 0 then s.err else Q3t s l):=hid rfl
 have HPN:Hid (pwN s l=if pwE s l=0 then Q1k s l else 0):=hid rfl
 clear h2 hs hu;go_enter Tryz.func62,Tryz.ntmps62;go_wp2_with fail;change Calls _ _ _ (w.alloc (.cells #[.int .i64 s.limit,.slice A s.ships.length capa,.slice B s.members.length capb] 34)) _;obtain ⟨W,hWW,k0,HXW,eW⟩:=Q1u w 34 #[.int .i64 s.limit,.slice A s.ships.length capa,.slice B s.members.length capb];rw [hWW];clear hWW;have K0:=hid k0;clear k0;refine (Q2c _ _ s ⟨_,_,rfl,H2.out.ext HXW.out⟩ HS.out).mono ?_;rintro e w5 ⟨rfl,hx5⟩;have HX5:=hid (HXW.out.trans hx5);have HK5:=hid (K0.out.ext hx5);clear hx5
 by_cases he:s.err=0
 . have HVS:=hid (Q0u.of he)
   have HPE2:Hid (pwE s l=Q3t s l):=hid (by rw [HPE.out,if_neg (by simpa using he)])
   have c0:=(HK5.out).cell 0;have c1:=(HK5.out).cell 1;have c2:=(HK5.out).cell 2;simp only [Go.Tw.gA,Go.Tw.gB,Go.Tw.gC] at c0 c1 c2;rw [he];clear he;go_wp2_with (go_at_call 133; refine (X7b _ _ _ s l ⟨_,_,rfl,H2.out.ext HX5.out⟩ (HU.out.ext HX5.out)).mono ?_; rintro e w6 ⟨rfl,hx6⟩; refine halted ?_);have HX6:=hid (HX5.out.trans hx6);have HK6:=hid (HK5.out.ext hx6);clear hx6 c0 c1 c2;unfold Q1j
   by_cases hm:Q3t s l=0
   . have hr:=Y2y hm
     have HR1:=hid hr.1;have HR2:Hid (l.length <= 4096):=hid (by omega)
     have HZ:Hid (pwE s l=0):=hid (by rw [HPE2.out,hm])
     have HN:Hid (pwN s l=Q1k s l):=hid (by rw [HPN.out,if_pos HZ.out])
     have c0:=(HK6.out).cell 0;have c1:=(HK6.out).cell 1;have c2:=(HK6.out).cell 2;simp only [Go.Tw.gA,Go.Tw.gB,Go.Tw.gC] at c0 c1 c2;rw [hm];clear hm hr;go_wp2_with (go_at_call 134; refine (X6a _ _ _ s l ⟨_,_,rfl,H2.out.ext HX6.out⟩ (HU.out.ext HX6.out) HVS.out HR1.out HR2.out).mono ?_; rintro e w7 ⟨rfl,hx7⟩);go_ret2;exact ⟨by rw [HZ.out,HN.out] <;> rfl,HX6.out.trans hx7⟩
   . have HN:Hid (pwN s l=0):=hid (by rw [HPN.out,if_neg (by rw [HPE2.out]; exact hm)])
     obtain ⟨E,hE⟩:∃ E,Q3t s l=E:=⟨_,rfl⟩;have HEE:Hid (pwE s l=E):=hid (HPE2.out.trans hE);rw [hE] at hm ⊢;have hI:(E != 0)=true:=by simp [hm]
     clear hE hm;go_wp2;go_ret2;exact ⟨by rw [HEE.out,HN.out] <;> rfl,HX6.out⟩
 . have HPE2:Hid (pwE s l=s.err):=hid (by rw [HPE.out,if_pos he])
   have HN:Hid (pwN s l=0):=hid (by rw [HPN.out,if_neg (by rw [HPE2.out]; exact he)])
   obtain ⟨E,hE⟩:∃ E,s.err=E:=⟨_,rfl⟩;have HEE:Hid (pwE s l=E):=hid (HPE2.out.trans hE);rw [hE] at he ⊢;have hI:(E != 0)=true:=by simp [he]
   clear hE he;go_wp2;go_ret2;exact ⟨by rw [HEE.out,HN.out] <;> rfl,HX5.out⟩
theorem Q6n {w:World} {o:Oper} {a:Act} (x:Operand) (k:Nat) (hop:o.op=.extract x k) {u r:Value} (h:a.eval x=u) (hr:∀ w,(Instr.extract u k).run Tryz.prog w=.ok r w):(execOp a.eval o).run Tryz.prog w=.ok (.value r) w:=by
 unfold execOp;simp only [hop,h,Sem.run_bind,hr,Result.andThen_ok,Sem.run_pure]
theorem Y8p {w:World} {o:Oper} {a:Act} (x:Operand) (hop:o.op=.move x) {u:Value} (h:a.eval x=u):(execOp a.eval o).run Tryz.prog w=.ok (.value u) w:=by
 unfold execOp;simp only [hop,h,Sem.run_pure]
theorem X1o {w:World} {o:Oper} {a:Act} (x:Operand) (hop:o.op=.assign x) {u:Value} (h:a.eval x=u):(execOp a.eval o).run Tryz.prog w=.ok (.value u) w:=by
 unfold execOp;simp only [hop,h,Sem.run_pure]
theorem J6j (w:World) (x y:Value):(Instr.extract (.tuple #[x,y]) 0).run Tryz.prog w=.ok x w:=rfl
theorem J6z (w:World) (x y:Value):(Instr.extract (.tuple #[x,y]) 1).run Tryz.prog w=.ok y w:=rfl
theorem J6w (w:World) (x y z:Value):(Instr.extract (.tuple #[x,y,z]) 0).run Tryz.prog w=.ok x w:=rfl
theorem J6q (w:World) (x y z:Value):(Instr.extract (.tuple #[x,y,z]) 1).run Tryz.prog w=.ok y w:=rfl
theorem J6v (w:World) (x y z:Value):(Instr.extract (.tuple #[x,y,z]) 2).run Tryz.prog w=.ok z w:=rfl
end Go.Proofs
