/- Contracts of the reference: Coded, Always. Contracts of the reference: OnlyPolicy, CheckPolicy. Contracts of the reference: Few, Most. Contract of the reference: Best. Most and Best of the program at a season that is refused; small facts for the law PolicySearches. -/
import Derived.Test.YthnobngcipaljaaGreatDoorPo34
import Derived.Test.YthnobngcipaljaaGreatDoorPo36
import Derived.Test.YthnobngcipaljaaGreatDoorPc03
import Derived.Test.YthnobngcipaljaaGreatDoorPc01
import Derived.Test.YthnobngcipaljaaGreatDoorPc02
import Derived.Lib.MinMax
set_option maxRecDepth 1000000
set_option maxHeartbeats 64000000
set_option linter.unusedVariables false
set_option linter.unusedSimpArgs false
set_option linter.constructorNameAsVariable false
namespace Go.Proofs
open Go.RowKit Go.Tw Go.Flow
attribute [local go_sem] Oper.semAt_some
def J9m (s:Q0b) (c:Bool) (k:Nat) (qs:List (Value × Rul)):Prop:=qs.map (fun q=>q.2.classes) = s.hist /\ ∀ j (h:j < qs.length),j < k -> qs[j].2.close = c
theorem J9m.start {s:Q0b} {c:Bool} {qs:List (Value × Rul)} (h:qs.map (·.2) = J4q s 0):J9m s c 0 qs:=by
 refine ⟨?_,fun j _ h=>absurd h (Nat.not_lt_zero _)⟩;have h1:qs.map (fun q=>q.2.classes) = (qs.map (·.2)).map Rul.classes:=by rw [List.map_map]; rfl
 rw [h1,h];unfold J4q;rw [List.map_map]
 apply List.ext_getElem
 . simp
 . intro i h1 h2
   simp [h2]
theorem J9m.step {s:Q0b} {c:Bool} {k:Nat} {qs:List (Value × Rul)} (h:J9m s c k qs) (hk:k < qs.length):J9m s c (k + 1) (qs.set k (qs[k].1,⟨qs[k].2.classes,c⟩)):=by
 obtain ⟨h1,h2⟩:=h;refine ⟨?_,fun j hj hjk=>?_⟩
 . rw [<- h1,List.map_set]
   apply List.ext_getElem
   . simp
   . intro i g1 g2
     rw [List.getElem_set]
     split
     . rename_i e; subst e; simp
     . rfl
 . rw [List.getElem_set]
   split
   . rfl
   . exact h2 j (by simpa using hj) (by omega)
theorem J9m.all {s:Q0b} {c:Bool} {qs:List (Value × Rul)} (h:J9m s c qs.length qs):qs.map (·.2) = always s c:=by
 obtain ⟨h1,h2⟩:=h;unfold always;rw [<- h1,List.map_map];refine List.map_congr_left fun q hq=>?_;obtain ⟨j,hj,rfl⟩:=List.getElem_of_mem hq;have:=h2 j hj hj;show qs[j].2 = ⟨qs[j].2.classes,c⟩;rw [<- this]
theorem RuR.put {w:World} {qs:List (Value × Rul)} {k:Nat} {c:Bool} (h:RuR w qs) (hk:k < qs.length):RuR w (qs.set k (qs[k].1,⟨qs[k].2.classes,c⟩)):=by
 intro q hq
 rcases List.mem_or_eq_of_mem_set hq with hq | rfl
 . exact h q hq
 . exact (show Q0t w 0 3 (.int .i64) qs[k].1 qs[k].2.classes from h _ (List.getElem_mem hk))
end Go.Proofs
namespace Go.Proofs
open Go.RowKit Go.Tw Go.Flow
attribute [local go_sem] Oper.semAt_some
theorem J9k {h:List (List Int)} {p:List Rul} (hl:p.length = h.length) (he:∀ j,j < h.length -> Q0w p j = h.getD j []):Q2g h p = 0:=by
 rw [Q4g]
 apply List.ext_getElem
 . simpa using hl
 . intro i h1 h2
   have:=he i h2;unfold Q0w at this;rw [Q0v _ h2,Q0v _ (by omega)] at this
   simpa using this
theorem J9o {h:List (List Int)} {p:List Rul} {j:Nat} (hl:p.length = h.length) (hj:j < h.length) (hne:Q0w p j ≠ h.getD j []):Q2g h p = 11:=by
 unfold Q2g;rw [if_neg (by simpa using hl),if_pos]
 intro he
 apply hne
 unfold Q0w;rw [Q0v _ hj,Q0v _ (show j < p.length by omega)]
 have:=congrArg (fun l=>l[j]?) he
 simpa [List.getElem?_eq_getElem hj,List.getElem?_eq_getElem (show j < p.length by omega)] using this
theorem J9j {h:List (List Int)} {p:List Rul} (hl:p.length ≠ h.length):Q2g h p = 2:=by unfold Q2g; rw [if_pos hl]
theorem J7g (w:World) (v u:Value) (s:Q0b) (p:List Rul) (hv:Q0h w v s) (hu:Q1c w u p) (he:s.err = 0) :
    Calls Tryz.prog 28 #[v,u] w fun e w'=>e = .returned (.int .i64 (Q2g s.hist p)) /\ Ext w w':=by
 have hS:=Q0y.of he;have hhl:=Z7m hS;have hhp:=J8e hS;have HVS:=Lib.hid hS;have HV:=Lib.hid hv;have HERR:=Lib.hid he;obtain ⟨a,b,rfl,-⟩:=hv;have ha:∃ A n c,a = .slice A n c:=by obtain ⟨_,_,e,h2⟩:=HV.out; cases e; obtain ⟨A,c,e,-⟩:=h2.ships.opened; exact ⟨A,_,c,e⟩
 have hb:∃ A n c,b = .slice A n c:=by obtain ⟨_,_,e,h2⟩:=HV.out; cases e; obtain ⟨A,c,e,-⟩:=h2.members.opened; exact ⟨A,_,c,e⟩
 obtain ⟨A1,n1,ca1,rfl⟩:=ha;obtain ⟨A2,n2,ca2,rfl⟩:=hb;obtain ⟨R,rfl,hr⟩:=hu;obtain ⟨AR,cr,rfl,-,-,hcr⟩:=hr.opened;have HCR:=Lib.hid hcr;obtain ⟨n,hn⟩:∃ n,p.length = n:=⟨_,rfl⟩;have HN:=Lib.hid hn;rw [hn] at HCR ⊢;clear hS he hr hcr hn;go_enter Tryz.func28,Tryz.ntmps28;go_wp2_with fail;obtain ⟨W,hWW,k0,k1,HXW,eW⟩:=Q4e w 25 #[.int .i64 s.limit,.slice A1 n1 ca1,.slice A2 n2 ca2] 47 #[.slice AR n cr];rw [hWW];clear hWW;have HV1:=Lib.hid (HV.out.ext HXW.out);obtain ⟨gs,hgs⟩:∃ x,w.heap.size = x:=⟨_,rfl⟩;rw [hgs] at k0 k1 eW ⊢;have K1:=Lib.hid k1;have c0:=k0.cell 0;have c1:=k0.cell 1;have c2:=k0.cell 2;simp only [Go.Tw.gA,Go.Tw.gB,Go.Tw.gC] at c0 c1 c2;clear k0 k1 hgs;go_wp2_with (go_at_call 44; refine (J4s _ _ s HV1.out HERR.out).mono ?_; rintro e wh ⟨xh,rfl,hll,hxh⟩; refine halted ?_);have hih:=J4x HVS.out hll;obtain ⟨AH,ch,rfl,-,-,hch⟩:=hih.opened;obtain ⟨H,hH⟩:∃ x,s.hist.length = x:=⟨_,rfl⟩;have HH:=Lib.hid hH;have HCH:=Lib.hid hch;rw [hH] at hhl HCH ⊢;have HXA:=Lib.hid (HXW.out.trans hxh);have HK1:=Lib.hid (K1.out.ext hxh);have d0:wh.cell? ⟨gs + 1,0,none⟩ = some (.slice AR n cr):=HK1.out.cell 0;clear hll hih hch hH hhp hxh c0 c1 c2;unfold Q1j
 by_cases hnH:n = H
 . have hI:((n:Int) != (H:Int)) = false:=by simp [hnH]
   subst hnH;go_wp2_with fail;clear d0
   go_loopw [6] (fun i wr=>∃ k:Nat,k <= n /\ i = .int .i64 k /\ (∀ j,j < k -> Q0w p j = s.hist.getD j []) /\ Ext wh wr) (fun i _=>n - (intOf i).toNat)
   case atStart=>exact ⟨0,Nat.zero_le _,rfl,fun j h=>absurd h (Nat.not_lt_zero _),Ext.refl _⟩
   case round =>
    obtain ⟨k,hk,rfl,heq,hx0⟩:=hrel;have HEQ:=Lib.hid heq;have HX0:=Lib.hid hx0;have hxr:Ext w wr:=HXA.out.trans hx0;have HKR:=Lib.hid (HK1.out.ext hx0)
    by_cases hlt:k < n
    . have hkI:(k:Int) < n:=by omega
      obtain ⟨b1,o1,x,rfl,-,e0,-,hi1⟩:=HCR.out k hlt;obtain ⟨b2,o2,y,rfl,-,f0,hi2⟩:=HCH.out k hlt;replace e0:=hxr.cell e0;replace f0:=hx0.cell f0;have HSI:=Lib.hid (fun (w1:World) (hx:Ext wr w1)=>Q8m w1 _ _ _ _ ((hi1.ext hxr).ext hx) ((hi2.ext hx0).ext hx));obtain ⟨X,capx,rfl,-,-,-⟩:=hi1.opened;obtain ⟨Y,capy,rfl,-,-,-⟩:=hi2.opened;obtain ⟨cp,hcp⟩:∃ c,Q0w p k = c:=⟨_,rfl⟩;obtain ⟨cq,hcq⟩:∃ c,s.hist.getD k [] = c:=⟨_,rfl⟩;rw [hcp,hcq] at HSI;rw [hcp] at e0;rw [hcq] at f0;have HCP:=Lib.hid hcp;have HCQ:=Lib.hid hcq;have HE0:=Lib.hid e0;have HF0:=Lib.hid f0;obtain ⟨q,hq⟩:∃ d,decide (cp = cq) = d:=⟨_,rfl⟩;have HQ:=Lib.hid hq;rw [hq] at HSI;have hdr:=(Ext.refl wr).drew;clear heq hx0 hxr hi1 hi2 hcp hcq e0 f0 hq;obtain ⟨wq,rfl⟩:∃ Z,Z = wr:=⟨_,rfl⟩;go_wp2_with fail;refine Flow.Q1h [.p,.w,.p,.p,.p,.w,.p,.p,.p,.w,.w,.p] [0,1,2,3,4,5,6,7,8,9,10,11] [[],[0],[],[1,2],[3],[4],[],[],[6,7],[8],[5,9],[10]]
       [.c 0 (.pointer (some ⟨gs + 1,0,none⟩)),.c 1 (.slice (some ⟨b1,o1,none⟩) n cr),.c 2 (.int .i64 (k:Int)),.c 3 (.pointer (some ⟨b1,o1 + k * 2,none⟩)),.c 4 (.pointer (some ⟨b1,o1 + k * 2,none⟩)),.c 5 (.slice X cp.length capx),.c 6 (.slice (some ⟨b2,o2,none⟩) n ch),.c 7 (.int .i64 (k:Int)),.c 8 (.pointer (some ⟨b2,o2 + k,none⟩)),.c 9 (.slice Y cq.length capy),.c 10 (.bool q),.c 11 (.bool (!q))]
       (by kernel_rfl) rfl (by kernel_rfl) ⟨?g0,?g1,?g2,?g3,?g4,?g5,?g6,?g7,?g8,?g9,?g10,?g11,trivial⟩ ?post
      case g0 | g2 | g6 | g7=>
       intro v w1 hx;intro bb hbb;subst hbb;refine ⟨_,fun w=>?_,rfl⟩;go_simp
      case g1=>
       intro v w1 hx;(repeat intro (zq:v _ = _));intro bb hbb;subst hbb;have n0:w1.cell? ⟨gs + 1,0,none⟩ = some (.slice (some ⟨b1,o1,none⟩) n cr):=(HKR.out.ext (hdr.trans hx)).cell 0;intro K hK;go_simp;exact hK _ _ (Ext.refl _) rfl
      case g3 | g4 | g8 | g11=>
       intro v w1 hx;(repeat intro (zq:v _ = _));intro bb hbb;subst hbb;refine ⟨_,fun w=>?_,rfl⟩;go_simp
      case g5=>
       intro v w1 hx;(repeat intro (zq:v _ = _));intro bb hbb;subst hbb;have n0:=(hdr.trans hx).cell HE0.out;intro K hK;go_simp;exact hK _ _ (Ext.refl _) rfl
      case g9=>
       intro v w1 hx;(repeat intro (zq:v _ = _));intro bb hbb;subst hbb;have n0:=(hdr.trans hx).cell HF0.out;intro K hK;go_simp;exact hK _ _ (Ext.refl _) rfl
      case g10=>
       intro v w1 hx;(repeat intro (zq:v _ = _));intro bb hbb;subst hbb;intro K hK;go_simp;refine Q0e (HSI.out w1 (hdr.trans hx)) ?_;rintro e w2 ⟨rfl,hx2⟩;exact ⟨_,rfl,hK _ _ hx2 rfl⟩
      case post =>
       intro v w1 hx;(iterate 12 intro (zq:v _ = _));simp only [Flow.All,Flow.acts,Act.put];go_simp;have HX6:=Lib.hid (HX0.out.trans (hdr.trans hx));clear hx hdr;(repeat clear zq);cases q with
       | false =>
         have hne:Q2g s.hist p = 11:=J9o (by rw [HN.out,HH.out]) (by rw [HH.out]; exact hlt) (by rw [HCP.out,HCQ.out]; exact of_decide_eq_false HQ.out)
         have HR:=Lib.hid hne;clear hne;go_wp2;go_ret;exact ⟨by rw [HR.out] <;> rfl,HXA.out.trans HX6.out⟩
       | true =>
         have hke:Q0w p k = s.hist.getD k []:=by rw [HCP.out,HCQ.out]; exact of_decide_eq_true HQ.out
         have HKE:=Lib.hid hke;clear hke;go_wp2;go_roundw
         case rel=>exact ⟨k + 1,by omega,by go_num,(fun j hj=>by
          rcases Nat.lt_or_ge j k with h | h
          . exact HEQ.out j h
          . have e:j = k:=by omega
            subst e; exact HKE.out),HX6.out⟩
         case measure=>simp [intOf]; omega
    . have hkI:¬ (k:Int) < n:=by omega
      have hkn:k = n:=by omega
      have hr0:Q2g s.hist p = 0:=J9k (by rw [HN.out,HH.out]) (by rw [HH.out,<- hkn]; exact heq)
      have HR:=Lib.hid hr0;clear heq hr0;go_wp2;go_ret;exact ⟨by rw [HR.out] <;> rfl,hxr⟩
 . have hI:((n:Int) != (H:Int)) = true:=by simp; omega
   have HR:Hid (Q2g s.hist p = 2):=Lib.hid (J9j (by rw [HN.out,HH.out]; exact hnH))
   clear hnH;go_wp2;go_ret;exact ⟨by rw [HR.out] <;> rfl,HXA.out⟩
end Go.Proofs
namespace Go.Proofs
open Go.RowKit Go.Tw Go.Flow
attribute [local go_sem] Oper.semAt_some
theorem J9r.policy {s:Q0b} (hS:Q0y s) {n:Nat} {w w':World} {x:Value} (h:J9r 115 w w' x (J4q s n)):Q1c w' x (J4q s n):=by
 refine h.is (by have:=Z7m hS; rw [J7u]; omega) fun r hr=>?_
 unfold J4q at hr;obtain ⟨i,hi,rfl⟩:=List.mem_map.1 hr;have hi':=List.mem_range.1 hi;have:=Z3t hS _ (List.getElem_mem hi');show (s.hist.getD i []).length <= 4096;rw [Q0v _ hi']; omega
theorem J4w (s:Q0b) (n:Nat):Q2g s.hist (J4q s n) = 0:=by
 rw [Q4g];unfold J4q;rw [List.map_map]
 apply List.ext_getElem
 . simp
 . intro i h1 h2
   simp [h2]
def J9v (s:Q0b):Bool:=decide (s.hist.length <= 9)
theorem J9b (w:World) (v:Value) (s:Q0b) (hv:Q0h w v s) (he:s.err = 0) :
    Calls Tryz.prog 17 #[v] w fun e w'=>e = .returned (.bool (J9v s)) /\ Ext w w':=by
 have hS:=Q0y.of he;have hhl:=Z7m hS;have HV:=Lib.hid hv;have HERR:=Lib.hid he;have HVS:=Lib.hid hS;obtain ⟨a,b,rfl,-⟩:=hv;have ha:∃ A n c,a = .slice A n c:=by obtain ⟨_,_,e,h2⟩:=HV.out; cases e; obtain ⟨A,c,e,-⟩:=h2.ships.opened; exact ⟨A,_,c,e⟩
 have hb:∃ A n c,b = .slice A n c:=by obtain ⟨_,_,e,h2⟩:=HV.out; cases e; obtain ⟨A,c,e,-⟩:=h2.members.opened; exact ⟨A,_,c,e⟩
 obtain ⟨A1,n1,ca1,rfl⟩:=ha;obtain ⟨A2,n2,ca2,rfl⟩:=hb;clear hS he;go_enter Tryz.func17,Tryz.ntmps17;go_wp2_with fail;change Calls _ _ _ (w.alloc (.cells #[.int .i64 s.limit,.slice A1 n1 ca1,.slice A2 n2 ca2] 25)) _;obtain ⟨W,hWW,k0,HXW,eW⟩:=Q1q w 25 #[.int .i64 s.limit,.slice A1 n1 ca1,.slice A2 n2 ca2];rw [hWW];clear hWW;refine (J4s _ _ s (HV.out.ext HXW.out) HERR.out).mono ?_;rintro e wh ⟨xh,rfl,hll,hxh⟩;have hih:=J4x HVS.out hll;obtain ⟨AH,ch,rfl,-,-,-⟩:=hih.opened;have HXH:=Lib.hid (HXW.out.trans hxh);obtain ⟨H,hH⟩:∃ x,s.hist.length = x:=⟨_,rfl⟩;have HH:=Lib.hid hH;rw [hH] at hhl ⊢;clear hll hih hH hxh k0 eW
 by_cases h9:H <= 9
 . have hI:(H:Int) <= 9:=by omega
   have HD:Hid (J9v s = true):=Lib.hid (decide_eq_true (by rw [HH.out]; exact h9))
   go_wp2;go_ret;exact ⟨by rw [HD.out] <;> rfl,HXH.out⟩
 . have hI:¬ (H:Int) <= 9:=by omega
   have HD:Hid (J9v s = false):=Lib.hid (decide_eq_false (by rw [HH.out]; exact h9))
   go_wp2;go_ret;exact ⟨by rw [HD.out]; show Ending.returned (.bool (decide ((H:Int) <= 9))) = _; rw [decide_eq_false (show ¬ (H:Int) <= 9 by omega)],HXH.out⟩
theorem J7d (s:Q0b) (n:Nat):J4u s (n + 1) = max (J4u s n) (Q2e s (Q3r s (J4q s n))):=rfl
theorem J7v {s:Q0b} (hS:Q0y s):∀ n,0 <= J4u s n /\ J4u s n <= 4096000
 | 0=>⟨Int.le_refl _,by show (0:Int) <= _; omega⟩
 | n + 1=>by
   have h1:=J7v hS n;have h2:=Z1m hS (Q9s s (J4q s n));have h3:=kept_len s (J4q s n);have h4:=hS.some.2;rw [J7d];omega
theorem J8u (w:World) (v:Value) (s:Q0b) (hv:Q0h w v s) (he:s.err = 0) (hF:s.hist.length <= 9) :
    Calls Tryz.prog 24 #[v] w fun e w'=>e = .returned (.int .i64 (J8i s)) /\ Ext w w':=by
 have hS:=Q0y.of he;have HV:=Lib.hid hv;have HERR:=Lib.hid he;have HVS:=Lib.hid hS;have h4:=hS.some.2;obtain ⟨a,b,rfl,-⟩:=hv;have ha:∃ A n c,a = .slice A n c:=by obtain ⟨_,_,e,h2⟩:=HV.out; cases e; obtain ⟨A,c,e,-⟩:=h2.ships.opened; exact ⟨A,_,c,e⟩
 have hb:∃ A n c,b = .slice A n c:=by obtain ⟨_,_,e,h2⟩:=HV.out; cases e; obtain ⟨A,c,e,-⟩:=h2.members.opened; exact ⟨A,_,c,e⟩
 obtain ⟨A1,n1,ca1,rfl⟩:=ha;obtain ⟨A2,n2,ca2,rfl⟩:=hb;have p1:=Z5x (n:=s.hist.length) (by omega)
 have hN2:2 ^ s.hist.length <= 512:=Nat.pow_le_pow_right (n:=2) (by omega) hF
 have HML:Hid (∀ n,0 <= J4u s n /\ J4u s n <= 4096000):=J7v hS;have hmr:J8i s = J4u s (2 ^ s.hist.length):=rfl;obtain ⟨H,hH⟩:∃ x,s.hist.length = x:=⟨_,rfl⟩;have HH:=Lib.hid hH;rw [hH] at p1 hN2 hF hmr;obtain ⟨N,hN⟩:∃ N,2 ^ H = N:=⟨_,rfl⟩;rw [hN] at p1 hN2 hmr;have HMR:=Lib.hid hmr;obtain ⟨mr,hmr2⟩:∃ x,J8i s = x:=⟨_,rfl⟩;have HMR2:=Lib.hid hmr2;rw [hmr2];clear hS he hH hN hmr hmr2;go_enter Tryz.func24,Tryz.ntmps24;go_wp2_with fail;obtain ⟨W,hWW,k0,HXW,eW⟩:=Q1q w 25 #[.int .i64 s.limit,.slice A1 n1 ca1,.slice A2 n2 ca2];rw [hWW];clear hWW;obtain ⟨gs,hgs⟩:∃ x,w.heap.size = x:=⟨_,rfl⟩;rw [hgs] at k0 ⊢;have K0:=Lib.hid k0;clear k0 hgs eW
 go_loopw [3,4] (fun m c wr=>∃ (n:Nat),n <= N /\ c = .int .i64 n /\ m = .int .i64 (J4u s n) /\ Ext W wr) (fun _ c _=>N - (intOf c).toNat)
 case atStart=>exact ⟨0,Nat.zero_le _,rfl,rfl,Ext.refl _⟩
 case round =>
  obtain ⟨n,hn,rfl,rfl,hx0⟩:=hrel;have c0:=(K0.out.ext hx0).cell 0;have c1:=(K0.out.ext hx0).cell 1;have c2:=(K0.out.ext hx0).cell 2;simp only [Go.Tw.gA,Go.Tw.gB,Go.Tw.gC] at c0 c1 c2;have HX0:=Lib.hid hx0;obtain ⟨wq,rfl⟩:∃ Z,Z = wr:=⟨_,rfl⟩;have HVQ:=Lib.hid (HV.out.ext (HXW.out.trans hx0));clear hx0;obtain ⟨mn,hmn⟩:∃ x,J4u s n = x:=⟨_,rfl⟩;have HMN:=Lib.hid hmn;rw [hmn];clear hmn
  by_cases hlt:n < N
  . have hnI:(n:Int) < N:=by omega
    go_wp2_with (go_at_call 44; refine (J4s _ _ s HVQ.out HERR.out).mono ?_; rintro e wh ⟨xh,rfl,hll,hxh⟩; refine halted ?_);have hih:=J4x HVS.out hll;obtain ⟨AH,ch,rfl,-,-,-⟩:=hih.opened;rw [HH.out];have HXH:=Lib.hid hxh;have HKH:=Lib.hid ((K0.out.ext HX0.out).ext hxh);have HVH:=Lib.hid (HVQ.out.ext hxh);have hdr:=(Ext.refl wh).drew;have hwb:=Z1m HVS.out (Q9s s (J4q s n));have hkl:=kept_len s (J4q s n);have hms:=J7d s n;rw [HMN.out] at hms;have hmb:=HML.out (n + 1);have HKR:Hid (∀ x ∈ Q3r s (J4q s n),0 <= x /\ x < s.members.length):=Q9s s (J4q s n);have HKL:Hid ((Q3r s (J4q s n)).length <= 4096):=Lib.hid (by omega)
    obtain ⟨wt,hwt⟩:∃ x,Q2e s (Q3r s (J4q s n)) = x:=⟨_,rfl⟩;have HWT:=Lib.hid hwt;rw [hwt] at hms;obtain ⟨mx,hmx⟩:∃ x,max mn wt = x:=⟨_,rfl⟩;have HMX:=Lib.hid hmx;rw [hmx] at hms;have HMS:=Lib.hid hms;clear hih hll hxh hwb hkl hms hmb hwt hmx c0 c1 c2;unfold Q1j;go_wp2_with fail;refine Flow.Q1h [.p,.w,.w,.w,.p,.w,.w,.w,.w,.p] [0,1,2,3,4,5,6,7,8,9] [[],[],[],[],[],[3,4],[2,5],[1,6],[0,7],[0,1,2,3,4,5,6,7,8]]
     [.c 0 (.int .i64 mn),.c 1 (.agg #[.int .i64 s.limit,.slice A1 n1 ca1,.slice A2 n2 ca2]),.c 2 (.agg #[.int .i64 s.limit,.slice A1 n1 ca1,.slice A2 n2 ca2]),.c 3 (.agg #[.int .i64 s.limit,.slice A1 n1 ca1,.slice A2 n2 ca2]),.c 4 (.int .i64 (n:Int)),⟨fun v wz=>(fun v w'=>Q1c w' (v 5) (J4q s n)) v wz,by intro v a b hx h; exact Q1c.ext h hx⟩,⟨fun v wz=>(fun v w'=>Q0d w' (v 6) (Q3r s (J4q s n))) v wz,by intro v a b hx h; exact Q0d.ext h hx⟩,.c 7 (.int .i64 wt),.c 8 (.int .i64 mx),.c 9 (.int .i64 mx)]
     (by kernel_rfl) rfl (by kernel_rfl) ⟨?g0,?g1,?g2,?g3,?g4,?g5,?g6,?g7,?g8,?g9,trivial⟩ ?post
    case g0 | g4=>
     intro v w1 hx;intro bb hbb;subst hbb;refine ⟨_,fun w=>?_,rfl⟩;go_simp
    case g1 | g2 | g3=>
     intro v w1 hx;intro bb hbb;intro K hK;have o1:bb.eval (.tmp 1) = .pointer (some ⟨gs,0,none⟩):=by rw [hbb]; dsimp only; (try simp (discharger:=decide) only [eval_put_ne]); rfl
     exact Q0l (.tmp 1) _ rfl Tryz.Y9z Tryz.Y2p o1 (HKH.out.ext (hdr.trans hx)) rfl (hK _ _ (Ext.refl _) rfl)
    case g5=>
     intro v w1 hx;(repeat intro (zq:v _ = _));intro bb hbb;subst hbb;intro K hK;go_simp;refine Q0e (J7h w1 _ s n (HVH.out.ext (hdr.trans hx)) HERR.out (by omega)) ?_
     rintro e w2 ⟨u,rfl,hu,hx2⟩;exact ⟨_,rfl,hK _ _ hx2 (hu.policy HVS.out)⟩
    case g6=>
     intro v w1 hx (q2:v 2 = _) (q5:(fun v w'=>Q1c w' (v 5) (J4q s n)) v w1);intro bb hbb;subst hbb;intro K hK;go_simp;refine Q0e (J5w w1 _ _ s (J4q s n) (HVH.out.ext (hdr.trans hx)) q5 HVS.out (J4w s n)) ?_;rintro e w2 ⟨u,rfl,hu,hx2⟩;exact ⟨_,rfl,hK _ _ hx2 hu⟩
    case g7=>
     intro v w1 hx (q1:v 1 = _) (q6:(fun v w'=>Q0d w' (v 6) (Q3r s (J4q s n))) v w1);intro bb hbb;subst hbb;intro K hK;go_simp;refine Q0e (J4z w1 _ _ s _ (HVH.out.ext (hdr.trans hx)) q6 HVS.out HKR.out HKL.out) ?_;rintro e w2 ⟨rfl,hx2⟩;exact ⟨_,rfl,hK _ _ hx2 (congrArg (Value.int .i64) HWT.out)⟩
    case g8=>
     intro v w1 hx;(repeat intro (zq:v _ = _));intro bb hbb;subst hbb;intro K hK;go_simp;exact hK _ _ (Ext.refl _) (congrArg (Value.int .i64) HMX.out)
    case g9=>
     intro v w1 hx (q0:v 0 = _) (q1:v 1 = _) (q2:v 2 = _) (q3:v 3 = _) (q4:v 4 = _) _ _ (q7:v 7 = _) (q8:v 8 = _);intro bb hbb;subst hbb;refine ⟨_,fun w=>?_,rfl⟩;go_simp
    case post =>
     intro v w1 hx;(iterate 5 intro (zq:v _ = _));intro (q5:(fun v w'=>Q1c w' (v 5) (J4q s n)) v w1) (q6:(fun v w'=>Q0d w' (v 6) (Q3r s (J4q s n))) v w1);(iterate 2 intro (zq:v _ = _));intro (q9:v 9 = _);simp only [Flow.All,Flow.acts,Act.put];go_simp;have HX5:=Lib.hid ((HX0.out.trans HXH.out).trans (hdr.trans hx));clear hx hdr q5 q6;(repeat clear zq);go_wp2;go_roundw
     case rel=>exact ⟨n + 1,by omega,by go_num,by rw [HMS.out],HX5.out⟩
     case measure=>simp [intOf]; omega
  . have hnI:¬ (n:Int) < N:=by omega
    have hnN:n = N:=by omega
    subst hnN;go_wp2_with (go_at_call 44; refine (J4s _ _ s HVQ.out HERR.out).mono ?_; rintro e wh ⟨xh,rfl,hll,hxh⟩; refine halted ?_);have hih:=J4x HVS.out hll;obtain ⟨AH,ch,rfl,-,-,-⟩:=hih.opened;rw [HH.out];have HXH:=Lib.hid hxh;clear hih hll hxh c0 c1 c2;unfold Q1j;go_wp2;go_ret;exact ⟨by rw [<- HMR2.out,HMR.out,HMN.out] <;> rfl,HXW.out.trans (HX0.out.trans HXH.out)⟩
end Go.Proofs
namespace Go.Proofs
open Go.RowKit Go.Tw Go.Flow
attribute [local go_sem] Oper.semAt_some
def brC:Option (Int × Int) -> Int
 | some x=>x.1
 | none=>0
def brD:Option (Int × Int) -> Int
 | some x=>x.2
 | none=>0
def brE:Option (Int × Int) -> Int
 | some _=>0
 | none=>24
theorem J8b {s:Q0b} {need:Int} {n:Nat} (h:Q2e s (Q3r s (J4q s n)) < need):J4y s need (n + 1) = J4y s need n:=by
 show pick _ _ _ _ _ = _; unfold pick; rw [if_pos h]
theorem J8h {s:Q0b} {need:Int} {n:Nat} (h:¬ Q2e s (Q3r s (J4q s n)) < need) (ho:J4y s need n = none):J4y s need (n + 1) = some (Q5f s (J4q s n),X4u s (J4q s n)):=by
 show pick _ _ _ _ _ = _; unfold pick; rw [if_neg h,ho]
theorem J8l {s:Q0b} {need:Int} {n:Nat} {x:Int × Int} (h:¬ Q2e s (Q3r s (J4q s n)) < need) (ho:J4y s need n = some x) (hc:Q5f s (J4q s n) < x.1 ∨ Q5f s (J4q s n) = x.1 /\ X4u s (J4q s n) < x.2):J4y s need (n + 1) = some (Q5f s (J4q s n),X4u s (J4q s n)):=by
 show pick _ _ _ _ _ = _; unfold pick; rw [if_neg h,ho]; obtain ⟨a,b⟩:=x; exact if_pos hc
theorem J8x {s:Q0b} {need:Int} {n:Nat} {x:Int × Int} (h:¬ Q2e s (Q3r s (J4q s n)) < need) (ho:J4y s need n = some x) (hc:¬ (Q5f s (J4q s n) < x.1 ∨ Q5f s (J4q s n) = x.1 /\ X4u s (J4q s n) < x.2)):J4y s need (n + 1) = some x:=by
 show pick _ _ _ _ _ = _; unfold pick; rw [if_neg h,ho]; obtain ⟨a,b⟩:=x; exact if_neg hc
theorem J8t (w:World) (v:Value) (s:Q0b) (need:Int) (hv:Q0h w v s) (he:s.err = 0) (hF:s.hist.length <= 9) :
    Calls Tryz.prog 25 #[v,.int .i64 need] w fun e w'=>e = .returned (.tuple #[.int .i64 (brC (J6v s need)),.int .i64 (brD (J6v s need)),.int .i64 (brE (J6v s need))]) /\ Ext w w':=by
 have hS:=Q0y.of he;have HV:=Lib.hid hv;have HERR:=Lib.hid he;have HVS:=Lib.hid hS;have h4:=hS.some.2;obtain ⟨a,b,rfl,-⟩:=hv;have ha:∃ A n c,a = .slice A n c:=by obtain ⟨_,_,e,h2⟩:=HV.out; cases e; obtain ⟨A,c,e,-⟩:=h2.ships.opened; exact ⟨A,_,c,e⟩
 have hb:∃ A n c,b = .slice A n c:=by obtain ⟨_,_,e,h2⟩:=HV.out; cases e; obtain ⟨A,c,e,-⟩:=h2.members.opened; exact ⟨A,_,c,e⟩
 obtain ⟨A1,n1,ca1,rfl⟩:=ha;obtain ⟨A2,n2,ca2,rfl⟩:=hb;have p1:=Z5x (n:=s.hist.length) (by omega)
 have hN2:2 ^ s.hist.length <= 512:=Nat.pow_le_pow_right (n:=2) (by omega) hF
 have hmr:J6v s need = J4y s need (2 ^ s.hist.length):=rfl;obtain ⟨H,hH⟩:∃ x,s.hist.length = x:=⟨_,rfl⟩;have HH:=Lib.hid hH;rw [hH] at p1 hN2 hF hmr;obtain ⟨N,hN⟩:∃ N,2 ^ H = N:=⟨_,rfl⟩;rw [hN] at p1 hN2 hmr;have HMR:=Lib.hid hmr;obtain ⟨br,hbr⟩:∃ x,J6v s need = x:=⟨_,rfl⟩;have HBR:=Lib.hid hbr;rw [hbr];obtain ⟨rc,hrc⟩:∃ x,brC br = x:=⟨_,rfl⟩;obtain ⟨rd,hrd⟩:∃ x,brD br = x:=⟨_,rfl⟩;obtain ⟨re,hre⟩:∃ x,brE br = x:=⟨_,rfl⟩;have HRC:=Lib.hid hrc;have HRD:=Lib.hid hrd;have HRE:=Lib.hid hre;rw [hrc,hrd,hre];clear hS he hH hN hmr hbr hrc hrd hre;go_enter Tryz.func25,Tryz.ntmps25;go_wp2_with fail;obtain ⟨W,hWW,k0,HXW,eW⟩:=Q1q w 25 #[.int .i64 s.limit,.slice A1 n1 ca1,.slice A2 n2 ca2];rw [hWW];clear hWW;obtain ⟨gs,hgs⟩:∃ x,w.heap.size = x:=⟨_,rfl⟩;rw [hgs] at k0 ⊢;have K0:=Lib.hid k0;clear k0 hgs eW
 go_loopw [7,8,9,10] (fun a b f c wr=>∃ (n:Nat) (o:Option (Int × Int)),n <= N /\ c = .int .i64 n /\ f = .bool o.isSome /\ a = .int .i64 (brC o) /\ b = .int .i64 (brD o) /\ J4y s need n = o /\ Ext W wr) (fun _ _ _ c _=>N - (intOf c).toNat)
 case atStart=>exact ⟨0,none,Nat.zero_le _,rfl,rfl,rfl,rfl,rfl,Ext.refl _⟩
 case round =>
  obtain ⟨n,o,hn,rfl,rfl,rfl,rfl,ho,hx0⟩:=hrel;have c0:=(K0.out.ext hx0).cell 0;have c1:=(K0.out.ext hx0).cell 1;have c2:=(K0.out.ext hx0).cell 2;simp only [Go.Tw.gA,Go.Tw.gB,Go.Tw.gC] at c0 c1 c2;have HX0:=Lib.hid hx0;have HO:=Lib.hid ho;obtain ⟨wq,rfl⟩:∃ Z,Z = wr:=⟨_,rfl⟩;have HVQ:=Lib.hid (HV.out.ext (HXW.out.trans hx0));clear hx0 ho
  by_cases hlt:n < N
  . have hnI:(n:Int) < N:=by omega
    go_wp2_with (go_at_call 44; refine (J4s _ _ s HVQ.out HERR.out).mono ?_; rintro e wh ⟨xh,rfl,hll,hxh⟩; refine halted ?_);have hih:=J4x HVS.out hll;obtain ⟨AH,ch,rfl,-,-,-⟩:=hih.opened;rw [HH.out];have HXH:=Lib.hid (HX0.out.trans hxh);have HKH:=Lib.hid ((K0.out.ext HX0.out).ext hxh);have HVH:=Lib.hid (HVQ.out.ext hxh);clear hih hll hxh c0 c1 c2;have c0:=(HKH.out).cell 0;have c1:=(HKH.out).cell 1;have c2:=(HKH.out).cell 2;simp only [Go.Tw.gA,Go.Tw.gB,Go.Tw.gC] at c0 c1 c2;unfold Q1j;go_wp2_with (go_at_call 36; refine (J7h _ _ s n HVH.out HERR.out (by omega)).mono ?_; rintro e wc ⟨xc,rfl,hu,hxc⟩; refine halted ?_)
    have hpol:=hu.policy HVS.out;obtain ⟨vo,rfl,hrul⟩:=hpol;obtain ⟨X,cx,rfl,-,-,-⟩:=hrul.opened;obtain ⟨pl,hpl⟩:∃ x,(J4q s n).length = x:=⟨_,rfl⟩;rw [hpl] at hrul ⊢;have hxp:=Ext.box wc (.cells #[.slice X pl cx] 47);have hbp:=Blk.made wc 47 #[.slice X pl cx];have HXP:=Lib.hid ((HXH.out.trans hxc).trans hxp);have KP:=Lib.hid ((HKH.out.ext hxc).ext hxp);have HVP:=Lib.hid ((HVH.out.ext hxc).ext hxp);have HPP:Hid (Q1c (wc.alloc (.cells #[.slice X pl cx] 47)) (.agg #[.slice X pl cx]) (J4q s n)):=Lib.hid ⟨_,rfl,hrul.ext hxp⟩;clear hu hrul hpl hxc hxp c0 c1 c2;unfold Q1j;go_wp2_with fail;obtain ⟨gp,hgp⟩:∃ x,wc.heap.size = x:=⟨_,rfl⟩;obtain ⟨wp,hwp⟩:∃ Z,wc.alloc (.cells #[.slice X pl cx] 47) = Z:=⟨_,rfl⟩;rw [hwp,hgp] at hbp;rw [hwp] at HXP KP HVP HPP;rw [hwp,hgp];have KB:=Lib.hid hbp;clear hbp hwp hgp;have hdr:=(Ext.refl wp).drew;have hkl:=kept_len s (J4q s n);have HKR:Hid (∀ x ∈ Q3r s (J4q s n),0 <= x /\ x < s.members.length):=Q9s s (J4q s n);have HKL:Hid ((Q3r s (J4q s n)).length <= 4096):=Lib.hid (by omega)
    have hless:=J8b (s:=s) (need:=need) (n:=n);have hnew:=J8h (s:=s) (need:=need) (n:=n);have hyes:=fun x=>J8l (s:=s) (need:=need) (n:=n) (x:=x);have hno:=fun x=>J8x (s:=s) (need:=need) (n:=n) (x:=x);obtain ⟨wt,hwt⟩:∃ x,Q2e s (Q3r s (J4q s n)) = x:=⟨_,rfl⟩;obtain ⟨cl,hcl⟩:∃ x,Q5f s (J4q s n) = x:=⟨_,rfl⟩;obtain ⟨dl,hdl⟩:∃ x,X4u s (J4q s n) = x:=⟨_,rfl⟩;have HWT:=Lib.hid hwt;have HCL:=Lib.hid hcl;have HDL:=Lib.hid hdl;rw [hwt] at hless hnew hyes hno;rw [hcl,hdl] at hnew hyes hno;rw [HO.out] at hless hnew hyes hno;have HLESS:=Lib.hid hless;have HNEW:=Lib.hid hnew;have HYES:=Lib.hid hyes;have HNO:=Lib.hid hno;clear hkl hwt hcl hdl hless hnew hyes hno
    by_cases hw:wt < need
    . have HNX:=Lib.hid (HLESS.out hw)
      refine Flow.Q1h [.w,.w,.w,.w,.w,.p,.p] [0,1,2,3,4,5,6] [[],[],[],[1,2],[0,3],[],[4,5]]
       [.c 0 (.agg #[.int .i64 s.limit,.slice A1 n1 ca1,.slice A2 n2 ca2]),.c 1 (.agg #[.int .i64 s.limit,.slice A1 n1 ca1,.slice A2 n2 ca2]),.c 2 (.agg #[.slice X pl cx]),⟨fun v wz=>(fun v w'=>Q0d w' (v 3) (Q3r s (J4q s n))) v wz,by intro v a b hx h; exact Q0d.ext h hx⟩,.c 4 (.int .i64 wt),.c 5 (.int .i64 need),.c 6 (.bool true)]
       (by kernel_rfl) rfl (by kernel_rfl) ⟨?g0,?g1,?g2,?g3,?g4,?g5,?g6,trivial⟩ ?post
      case g0 | g1=>
       intro v w1 hx;intro bb hbb;intro K hK;have o1:bb.eval (.tmp 2) = .pointer (some ⟨gs,0,none⟩):=by rw [hbb]; dsimp only; (try simp (discharger:=decide) only [eval_put_ne]); rfl
       exact Q0l (.tmp 2) _ rfl Tryz.Y9z Tryz.Y2p o1 (KP.out.ext (hdr.trans hx)) rfl (hK _ _ (Ext.refl _) rfl)
      case g2=>
       intro v w1 hx;intro bb hbb;intro K hK;have o1:bb.eval (.tmp 11) = .pointer (some ⟨gp,0,none⟩):=by rw [hbb]; dsimp only; (try simp (discharger:=decide) only [eval_put_ne]); rfl
       exact Q0l (.tmp 11) _ rfl Tryz.J2n Tryz.J0b o1 (KB.out.ext (hdr.trans hx)) rfl (hK _ _ (Ext.refl _) rfl)
      case g3=>
       intro v w1 hx;(repeat intro (zq:v _ = _));intro bb hbb;subst hbb;intro K hK;go_simp;refine Q0e (J5w w1 _ _ s (J4q s n) (HVP.out.ext (hdr.trans hx)) (HPP.out.ext (hdr.trans hx)) HVS.out (J4w s n)) ?_;rintro e w2 ⟨u,rfl,hu,hx2⟩;exact ⟨_,rfl,hK _ _ hx2 hu⟩
      case g4=>
       intro v w1 hx (q0:v 0 = _) (q3:(fun v w'=>Q0d w' (v 3) (Q3r s (J4q s n))) v w1);intro bb hbb;subst hbb;intro K hK;go_simp;refine Q0e (J4z w1 _ _ s _ (HVP.out.ext (hdr.trans hx)) q3 HVS.out HKR.out HKL.out) ?_;rintro e w2 ⟨rfl,hx2⟩;exact ⟨_,rfl,hK _ _ hx2 (congrArg (Value.int .i64) HWT.out)⟩
      case g5=>
       intro v w1 hx;intro bb hbb;subst hbb;refine ⟨_,fun w=>?_,rfl⟩;go_simp
      case g6=>
       intro v w1 hx;(repeat intro (zq:v _ = _));intro bb hbb;subst hbb;refine ⟨_,fun w=>?_,rfl⟩;go_simp
      case post =>
       intro v w1 hx;(iterate 3 intro (zq:v _ = _));intro (q3:(fun v w'=>Q0d w' (v 3) (Q3r s (J4q s n))) v w1);(iterate 3 intro (zq:v _ = _));simp only [Flow.All,Flow.acts,Act.put];go_simp;have HX7:=Lib.hid (HXP.out.trans (hdr.trans hx));clear hx hdr q3;(repeat clear zq);go_wp2;go_roundw
       case rel=>exact ⟨n + 1,o,by omega,by go_num,rfl,rfl,rfl,HNX.out,HX7.out⟩
       case measure=>simp [intOf]; omega
    . skip
      refine Flow.Q1h [.w,.w,.w,.w,.w,.p,.p] [0,1,2,3,4,5,6] [[],[],[],[1,2],[0,3],[],[4,5]]
       [.c 0 (.agg #[.int .i64 s.limit,.slice A1 n1 ca1,.slice A2 n2 ca2]),.c 1 (.agg #[.int .i64 s.limit,.slice A1 n1 ca1,.slice A2 n2 ca2]),.c 2 (.agg #[.slice X pl cx]),⟨fun v wz=>(fun v w'=>Q0d w' (v 3) (Q3r s (J4q s n))) v wz,by intro v a b hx h; exact Q0d.ext h hx⟩,.c 4 (.int .i64 wt),.c 5 (.int .i64 need),.c 6 (.bool false)]
       (by kernel_rfl) rfl (by kernel_rfl) ⟨?g0,?g1,?g2,?g3,?g4,?g5,?g6,trivial⟩ ?post
      case g0 | g1=>
       intro v w1 hx;intro bb hbb;intro K hK;have o1:bb.eval (.tmp 2) = .pointer (some ⟨gs,0,none⟩):=by rw [hbb]; dsimp only; (try simp (discharger:=decide) only [eval_put_ne]); rfl
       exact Q0l (.tmp 2) _ rfl Tryz.Y9z Tryz.Y2p o1 (KP.out.ext (hdr.trans hx)) rfl (hK _ _ (Ext.refl _) rfl)
      case g2=>
       intro v w1 hx;intro bb hbb;intro K hK;have o1:bb.eval (.tmp 11) = .pointer (some ⟨gp,0,none⟩):=by rw [hbb]; dsimp only; (try simp (discharger:=decide) only [eval_put_ne]); rfl
       exact Q0l (.tmp 11) _ rfl Tryz.J2n Tryz.J0b o1 (KB.out.ext (hdr.trans hx)) rfl (hK _ _ (Ext.refl _) rfl)
      case g3=>
       intro v w1 hx;(repeat intro (zq:v _ = _));intro bb hbb;subst hbb;intro K hK;go_simp;refine Q0e (J5w w1 _ _ s (J4q s n) (HVP.out.ext (hdr.trans hx)) (HPP.out.ext (hdr.trans hx)) HVS.out (J4w s n)) ?_;rintro e w2 ⟨u,rfl,hu,hx2⟩;exact ⟨_,rfl,hK _ _ hx2 hu⟩
      case g4=>
       intro v w1 hx (q0:v 0 = _) (q3:(fun v w'=>Q0d w' (v 3) (Q3r s (J4q s n))) v w1);intro bb hbb;subst hbb;intro K hK;go_simp;refine Q0e (J4z w1 _ _ s _ (HVP.out.ext (hdr.trans hx)) q3 HVS.out HKR.out HKL.out) ?_;rintro e w2 ⟨rfl,hx2⟩;exact ⟨_,rfl,hK _ _ hx2 (congrArg (Value.int .i64) HWT.out)⟩
      case g5=>
       intro v w1 hx;intro bb hbb;subst hbb;refine ⟨_,fun w=>?_,rfl⟩;go_simp
      case g6=>
       intro v w1 hx;(repeat intro (zq:v _ = _));intro bb hbb;subst hbb;refine ⟨_,fun w=>?_,rfl⟩;go_simp
      case post =>
       intro v w1 hx (q0:v 0 = _) (q1:v 1 = _) (q2:v 2 = _) (q3:(fun v w'=>Q0d w' (v 3) (Q3r s (J4q s n))) v w1) (q4:v 4 = _) (q5:v 5 = _) (q6:v 6 = _);simp only [Flow.All,Flow.acts,Act.put];go_simp;have hxx:=hdr.trans hx;have HX6:=Lib.hid (HXP.out.trans hxx);have KP6:=Lib.hid (KP.out.ext hxx);have KB6:=Lib.hid (KB.out.ext hxx);have HVP6:=Lib.hid (HVP.out.ext hxx);have HPP6:=Lib.hid (HPP.out.ext hxx);obtain ⟨w6,rfl⟩:∃ Z,Z = w1:=⟨_,rfl⟩;clear hx hxx hdr q0 q1 q2 q3 q4 q5 q6;have hdr:=(Ext.refl w6).drew;go_wp2_with fail;refine Flow.Q1h [.w,.w,.w,.w,.w,.w,.p,.p] [0,1,2,3,4,5,6,7] [[],[],[0,1],[],[],[2,3,4],[0,1,2,5],[0,1,2,3,4,5,6]]
        [.c 0 (.agg #[.int .i64 s.limit,.slice A1 n1 ca1,.slice A2 n2 ca2]),.c 1 (.agg #[.slice X pl cx]),.c 2 (.int .i64 cl),.c 3 (.agg #[.int .i64 s.limit,.slice A1 n1 ca1,.slice A2 n2 ca2]),.c 4 (.agg #[.slice X pl cx]),.c 5 (.int .i64 dl),.c 6 (.int .i64 cl),.c 7 (.int .i64 dl)]
        (by kernel_rfl) rfl (by kernel_rfl) ⟨?g0,?g1,?g2,?g3,?g4,?g5,?g6,?g7,trivial⟩ ?post
       case g0 | g3=>
        intro v w1 hx;intro bb hbb;intro K hK;have o1:bb.eval (.tmp 2) = .pointer (some ⟨gs,0,none⟩):=by rw [hbb]; dsimp only; (try simp (discharger:=decide) only [eval_put_ne]); rfl
        exact Q0l (.tmp 2) _ rfl Tryz.Y9z Tryz.Y2p o1 (KP6.out.ext (hdr.trans hx)) rfl (hK _ _ (Ext.refl _) rfl)
       case g1 | g4=>
        intro v w1 hx;intro bb hbb;intro K hK;have o1:bb.eval (.tmp 11) = .pointer (some ⟨gp,0,none⟩):=by rw [hbb]; dsimp only; (try simp (discharger:=decide) only [eval_put_ne]); rfl
        exact Q0l (.tmp 11) _ rfl Tryz.J2n Tryz.J0b o1 (KB6.out.ext (hdr.trans hx)) rfl (hK _ _ (Ext.refl _) rfl)
       case g2=>
        intro v w1 hx;(repeat intro (zq:v _ = _));intro bb hbb;subst hbb;intro K hK;go_simp;refine Q0e (J5u w1 _ _ s (J4q s n) (HVP6.out.ext (hdr.trans hx)) (HPP6.out.ext (hdr.trans hx)) HVS.out (J4w s n)) ?_;rintro e w2 ⟨rfl,hx2⟩;exact ⟨_,rfl,hK _ _ hx2 (congrArg (Value.int .i64) HCL.out)⟩
       case g5=>
        intro v w1 hx;(repeat intro (zq:v _ = _));intro bb hbb;subst hbb;intro K hK;go_simp;refine Q0e (J7k w1 _ _ s (J4q s n) (HVP6.out.ext (hdr.trans hx)) (HPP6.out.ext (hdr.trans hx)) HVS.out (J4w s n)) ?_;rintro e w2 ⟨rfl,hx2⟩;exact ⟨_,rfl,hK _ _ hx2 (congrArg (Value.int .i64) HDL.out)⟩
       case g6 | g7=>
        intro v w1 hx;(repeat intro (zq:v _ = _));intro bb hbb;subst hbb;refine ⟨_,fun w=>?_,rfl⟩;go_simp
       case post =>
        intro v w1 hx;(iterate 6 intro (zq:v _ = _));intro (q6:v 6 = _) (q7:v 7 = _);simp only [Flow.All,Flow.acts,Act.put];go_simp;have HX7:=Lib.hid (HX6.out.trans (hdr.trans hx));clear hx hdr;(repeat clear zq);cases o with
        | none =>
          have HNX:=Lib.hid (HNEW.out hw rfl);go_wp2;go_roundw
          case rel=>exact ⟨n + 1,some (cl,dl),by omega,by go_num,rfl,rfl,rfl,HNX.out,HX7.out⟩
          case measure=>simp [intOf]; omega
        | some x =>
          obtain ⟨x1,x2⟩:=x;have hb1:brC (some (x1,x2)) = x1:=rfl;have hb2:brD (some (x1,x2)) = x2:=rfl;rw [hb1,hb2]
          by_cases h1:cl < x1
          . have HNX:=Lib.hid (HYES.out (x1,x2) hw rfl (.inl h1))
            go_wp2;go_roundw
            case rel=>exact ⟨n + 1,some (cl,dl),by omega,by go_num,rfl,rfl,rfl,HNX.out,HX7.out⟩
            case measure=>simp [intOf]; omega
          . by_cases h2:cl = x1
            . have he2:(cl == x1) = true:=by simp [h2]
              by_cases h3:dl < x2
              . have HNX:=Lib.hid (HYES.out (x1,x2) hw rfl (.inr ⟨h2,h3⟩))
                clear h2;go_wp2;go_roundw
                case rel=>exact ⟨n + 1,some (cl,dl),by omega,by go_num,rfl,rfl,rfl,HNX.out,HX7.out⟩
                case measure=>simp [intOf]; omega
              . have HNX:=Lib.hid (HNO.out (x1,x2) hw rfl (by rintro (h | h); exact h1 h; exact h3 h.2))
                clear h2;go_wp2;go_roundw
                case rel=>exact ⟨n + 1,some (x1,x2),by omega,by go_num,rfl,rfl,rfl,HNX.out,HX7.out⟩
                case measure=>simp [intOf]; omega
            . have he2:(cl == x1) = false:=by simp [h2]
              have HNX:=Lib.hid (HNO.out (x1,x2) hw rfl (by rintro (h | h); exact h1 h; exact h2 h.1))
              go_wp2;go_roundw
              case rel=>exact ⟨n + 1,some (x1,x2),by omega,by go_num,rfl,rfl,rfl,HNX.out,HX7.out⟩
              case measure=>simp [intOf]; omega
  . have hnI:¬ (n:Int) < N:=by omega
    have hnN:n = N:=by omega
    subst hnN;go_wp2_with (go_at_call 44; refine (J4s _ _ s HVQ.out HERR.out).mono ?_; rintro e wh ⟨xh,rfl,hll,hxh⟩; refine halted ?_);have hih:=J4x HVS.out hll;obtain ⟨AH,ch,rfl,-,-,-⟩:=hih.opened;rw [HH.out];have HXH:=Lib.hid (HXW.out.trans (HX0.out.trans hxh));have hbo:br = o:=by rw [<- HBR.out,HMR.out,HO.out]
    have HBO:=Lib.hid hbo;clear hih hll hxh c0 c1 c2 hbo;unfold Q1j;cases o with
    | none =>
      have e1:rc = 0:=by rw [<- HRC.out,HBO.out]; rfl
      have e2:rd = 0:=by rw [<- HRD.out,HBO.out]; rfl
      have e3:re = 24:=by rw [<- HRE.out,HBO.out]; rfl
      have E1:=Lib.hid e1;have E2:=Lib.hid e2;have E3:=Lib.hid e3;clear e1 e2 e3;go_wp2
      go_ret3
      exact ⟨by rw [E1.out,E2.out,E3.out] <;> rfl,HXH.out⟩
    | some x =>
      obtain ⟨x1,x2⟩:=x;have e1:rc = x1:=by rw [<- HRC.out,HBO.out]; rfl
      have e2:rd = x2:=by rw [<- HRD.out,HBO.out]; rfl
      have e3:re = 0:=by rw [<- HRE.out,HBO.out]; rfl
      have E1:=Lib.hid e1;have E2:=Lib.hid e2;have E3:=Lib.hid e3;have hb1:brC (some (x1,x2)) = x1:=rfl;have hb2:brD (some (x1,x2)) = x2:=rfl;rw [hb1,hb2];clear e1 e2 e3 hb1 hb2;go_wp2
      go_ret3
      exact ⟨by rw [E1.out,E2.out,E3.out] <;> rfl,HXH.out⟩
end Go.Proofs
namespace Go.Proofs
open Go.RowKit Go.Tw Go.Flow
attribute [local go_sem] Oper.semAt_some
theorem J6z {s:Q0b} {need:Int} (he:s.err ≠ 0):Z5b s need = s.err:=by unfold Z5b; unfold Q0j; rw [if_neg he]
theorem J8z (w:World) (v:Value) (s:Q0b) (hv:Q0h w v s) (hs:Q3d s) (he:s.err ≠ 0) :
    Calls Tryz.prog 19 #[v] w fun e w'=>e = .returned (.tuple #[.int .i64 0,.int .i64 s.err]) /\ Ext w w':=by
 obtain ⟨a,b,rfl,h2⟩:=hv;obtain ⟨A,capa,rfl,-,-,-⟩:=h2.ships.opened;obtain ⟨B,capb,rfl,-,-,-⟩:=h2.members.opened;have H2:=Lib.hid h2;have HS:=Lib.hid hs;have HE:=Lib.hid he;clear h2 hs he;go_enter Tryz.func19,Tryz.ntmps19;go_wp2_with fail;change Calls _ _ _ (w.alloc (.cells #[.int .i64 s.limit,.slice A s.ships.length capa,.slice B s.members.length capb] 34)) _;obtain ⟨W,hWW,k0,HXW,eW⟩:=Q1q w 34 #[.int .i64 s.limit,.slice A s.ships.length capa,.slice B s.members.length capb];rw [hWW];clear hWW;clear k0;refine (Q1s _ _ s ⟨_,_,rfl,H2.out.ext HXW.out⟩ HS.out).mono ?_;rintro e w5 ⟨rfl,hx5⟩;have HX5:=Lib.hid (HXW.out.trans hx5);have hne:(s.err != 0) = true:=by simp [HE.out]
 obtain ⟨E,hE⟩:∃ E,s.err = E:=⟨_,rfl⟩;have HPE:=Lib.hid hE;rw [hE] at hne ⊢;clear hE hx5;go_wp2;go_ret2;exact ⟨by rw [HPE.out] <;> rfl,HX5.out⟩
theorem J8y (w:World) (v:Value) (s:Q0b) (need:Int) (hv:Q0h w v s) (hs:Q3d s) (he:s.err ≠ 0) :
    Calls Tryz.prog 21 #[v,.int .i64 need] w fun e w'=>Z7c s need e w' /\ Ext w w':=by
 obtain ⟨a,b,rfl,h2⟩:=hv;obtain ⟨A,capa,rfl,-,-,-⟩:=h2.ships.opened;obtain ⟨B,capb,rfl,-,-,-⟩:=h2.members.opened;have H2:=Lib.hid h2;have HS:=Lib.hid hs;have HEE:=Lib.hid he;have HFB:=Lib.hid (J6z (need:=need) he);clear h2 hs he;go_enter Tryz.func21,Tryz.ntmps21;go_wp2_with fail;change Calls _ _ _ ((w.alloc (.cells #[.int .i64 s.limit,.slice A s.ships.length capa,.slice B s.members.length capb] 34)).alloc (.cells #[.slice none 0 0] 38)) _;obtain ⟨W,hWW,k0,k1,HXW,eW⟩:=Q4e w 34 #[.int .i64 s.limit,.slice A s.ships.length capa,.slice B s.members.length capb] 38 #[.slice none 0 0];rw [hWW];clear hWW;have K1:=Lib.hid k1;obtain ⟨gs,hgs⟩:∃ z,w.heap.size = z:=⟨_,rfl⟩;have HGS:=Lib.hid hgs;rw [hgs] at K1 eW ⊢;clear k0 k1 hgs;refine (Q1s _ _ s ⟨_,_,rfl,H2.out.ext HXW.out⟩ HS.out).mono ?_;rintro e w5 ⟨rfl,hx5⟩;have HXR:=Lib.hid hx5;have HER:Hid (Z5b s need = Q0j [s.err,Q0f need 0 8000]):=Lib.hid rfl;obtain ⟨E,hE⟩:∃ E,s.err = E:=⟨_,rfl⟩;have HE:=Lib.hid hE;rw [hE] at HER ⊢;have HNE:=Lib.hid (X2c w5 need);obtain ⟨R,hR⟩:∃ R,Q0f need 0 8000 = R:=⟨_,rfl⟩;have HR:=Lib.hid hR;rw [hR] at HER HNE;have HFI:=Lib.hid (first_any (w5.alloc (.cells #[.int .i64 E,.int .i64 R] 29)) _ [E,R] (Q3i (by simp)))
 rw [<- HER.out] at HFI;obtain ⟨F,hFv⟩:∃ F,Z5b s need = F:=⟨_,rfl⟩;have HFV:=Lib.hid hFv;rw [hFv] at HFI;have hf:F ≠ 0:=by rw [<- hFv,HFB.out]; exact HEE.out
 clear hx5 hE hR hFv;go_wp2_with (first | (go_at_call 97; refine HNE.out.mono ?_; rintro e w6 ⟨rfl,rfl⟩; refine halted ?_) | fail)
 unfold Q1j;have hne:(F != 0) = true:=by simp [hf]
 have kP:=K1.out.ext HXR.out |>.ext (Ext.box w5 (.cells #[.int .i64 E,.int .i64 R] 29))
 have HBN:Hid (Y2x s need = (0,0,F) /\ Y4v s need = []):=Lib.hid ⟨by unfold Y2x; rw [HFV.out,if_pos hf],by unfold Y4v; rw [HFV.out,if_pos hf]⟩
 go_wp2_with (first | (go_at_call 96; refine HFI.out.mono ?_; rintro e w7 ⟨rfl,rfl⟩) | (refine Q0u rfl _ _ _ rfl Tryz.Q4z rfl rfl kP rfl rfl Y2r ?_; intro w9 hb9 hl9 ho9))
 refine bodyPost_ret (Q8u Tryz.results21 rfl hb9 Tryz.X0r Tryz.Q4z rfl rfl rfl) rfl ?_;exact ⟨⟨_,by rw [HBN.out.1]; rfl,by rw [HBN.out.2]; exact Go.Tw.Rows.nil _ _ _⟩,Below.trans (HXW.out.trans (HXR.out.trans (Ext.box w5 (.cells #[.int .i64 E,.int .i64 R] 29)))) (hl9 _ (by have:=HGS.out; omega))⟩
theorem J7n (w:World) (x:Int):Calls Tryz.prog 23 #[.int .i64 x] w fun e w'=>e = .returned (.int .i64 (Q0f x 0 8000)) /\ Ext w w' :=
 (J7i w x).mono fun e w' ⟨h1,h2⟩=>⟨h1,by rw [<- h2]; exact Ext.refl _⟩
theorem J9d {w:World} {g:Nat} {T:TypeId} {a b:Int} (h:Blk w g T #[.int .i64 a,.int .i64 b]):Q0d w (.slice (some ⟨g,0,none⟩) 2 2) [a,b]:=by
 refine ⟨fun j=>if j = 0 then .int .i64 a else .int .i64 b,⟨some ⟨g,0,none⟩,2,rfl,by simp,Nat.le_refl _,fun j hj=>⟨g,0,rfl,?_⟩⟩,fun j hj=>?_⟩
 . have hj':j < 2:=hj
   rw [h.cell]
   match j,hj' with
   | 0,_=>rfl
   | 1,_=>rfl
 . match j,hj with
   | 0,_=>rfl
   | 1,_=>rfl
theorem J7w (w:World) (g:Nat) (T:TypeId) (a b:Int) (h:Blk w g T #[.int .i64 a,.int .i64 b]):Calls Tryz.prog 22 #[.slice (some ⟨g,0,none⟩) 2 2] w fun e w'=>e = .returned (.int .i64 (Q0j [a,b])) /\ Ext w w' :=
 (Z5l w _ [a,b] (J9d h)).mono fun e w' ⟨h1,h2⟩=>⟨h1,by rw [<- h2]; exact Ext.refl _⟩
theorem J5b (s:Q0b) (x:Plan):Q2g s.hist (X9u s x) = 0:=Q4g.2 (by simp [X9u,Function.comp_def])
theorem J7x {s:Q0b} (hS:Q0y s) (x:Plan):J4h (X9u s x):=by
 refine ⟨by have:=Z7m hS; unfold X9u; rw [List.length_map]; omega,fun i hi=>?_⟩
 have hm:(X9u s x)[i] ∈ X9u s x:=List.getElem_mem hi;unfold Q0w;rw [Q0v _ hi];obtain ⟨h,hh,e⟩:=List.mem_map.1 hm;rw [<- e];have:=Z3t hS h hh;show h.length <= 8;omega
structure J9w (s:Q0b) (need:Int) (F b c d:Int) (x:Option Plan):Prop where
 f:Z5b s need = F
 x:Y4m s need = x
theorem J9s {s:Q0b} (hf:Fine s) {need:Int} {x:Plan} (h:Y4m s need = some x):brC (J6v s need) = x.closings /\ brD (J6v s need) = x.delay /\ brE (J6v s need) = 0:=by
 rw [<- J8s hf need,h]; exact ⟨rfl,rfl,rfl⟩
theorem J9t {s:Q0b} (hf:Fine s) {need:Int} (h:Y4m s need = none):brC (J6v s need) = 0 /\ brD (J6v s need) = 0 /\ brE (J6v s need) = 24:=by
 rw [<- J8s hf need,h]; exact ⟨rfl,rfl,rfl⟩
theorem J8p {s:Q0b} {need:Int} (hF:Z5b s need = 0) {x:Plan} (h:Y4m s need = some x):Y2x s need = (x.closings,x.delay,0) /\ Y4v s need = X9u s x:=by
 unfold Y2x Y4v; rw [hF,h]; exact ⟨rfl,rfl⟩
theorem J8n {s:Q0b} {need:Int} (hF:Z5b s need = 0) (h:Y4m s need = none):Y2x s need = (0,0,24) /\ Y4v s need = []:=by
 unfold Y2x Y4v; rw [hF,h]; exact ⟨rfl,rfl⟩
theorem J7p {s:Q0b} {need:Int} (hF:Z5b s need ≠ 0):Y2x s need = (0,0,Z5b s need) /\ Y4v s need = []:=by
 unfold Y2x Y4v; rw [if_pos hF,if_pos hF]; exact ⟨rfl,rfl⟩
end Go.Proofs
