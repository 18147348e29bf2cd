/- Contracts of the reference's comparisons: SamePolicy, SameGroups. -/
import Derived.Test.YthnobngcipaljaaGreatDoorPp16
import Derived.Test.YthnobngcipaljaaGreatDoorPp05
import Derived.Test.YthnobngcipaljaaGreatDoorPp06
set_option maxRecDepth 1000000
set_option maxHeartbeats 64000000
set_option linter.unusedVariables false
set_option linter.unusedSimpArgs false
set_option linter.constructorNameAsVariable false
open Go.Lib (hid)
namespace Go.Proofs
open Go.RowKit Go.Tw Go.Flow
attribute [local go_sem] Oper.semAt_some
def Q2u (b:Bool) (x:Value):Value:=if b then undef else x
def Z6h (r:Rul):List Int × Bool:=(r.classes,r.close)
def Z6j (g:Grp):List Int × Int:=(g.members,g.weight)
def X5t (a b:List Rul):Bool:=decide (a.map Z6h=b.map Z6h)
def X4d (a b:List Grp):Bool:=decide (a.map Z6j=b.map Z6j)
theorem Y1o {α β:Type} [Inhabited α] {f:α -> β} {a b:List α} (hl:a.length=b.length) (h:∀ j,j < a.length -> f (a.getD j default)=f (b.getD j default)):a.map f=b.map f:=by
 apply List.ext_getElem
 . simp [hl]
 . intro j h1 h2
   have h1':j < a.length:=by simpa using h1
   have h2':j < b.length:=by simpa using h2
   have:=h j h1';rw [Q0v _ h1',Q0v _ h2'] at this
   simpa using this
theorem Y2g {α β:Type} [Inhabited α] {f:α -> β} {a b:List α} {j:Nat} (h1:j < a.length) (h2:j < b.length) (h:f (a.getD j default) ≠ f (b.getD j default)):a.map f ≠ b.map f:=by
 intro he
 apply h
 have:=congrArg (fun l=>l[j]?) he;simp only [List.getElem?_map,List.getElem?_eq_getElem h1,List.getElem?_eq_getElem h2,Option.map_some,Option.some.injEq] at this;rw [Q0v _ h1,Q0v _ h2]; exact this
theorem X7h (w:World) (u v:Value) (p q:List Rul) (hu:Q0w w u p) (hv:Q0w w v q) :
    Calls Tryz.prog 48 #[u,v] w fun e w'=>e=.returned (.bool (X5t p q)) /\ Ext w w':=by
 obtain ⟨u,rfl,hu⟩:=hu;obtain ⟨v,rfl,hv⟩:=hv;obtain ⟨A,ca,rfl,hla,-,hc⟩:=hu.opened;obtain ⟨B,cb,rfl,hlb,-,hd⟩:=hv.opened;have HC:=hid hc;have HD:=hid hd;obtain ⟨n,hn⟩:∃ n,p.length=n:=⟨_,rfl⟩;obtain ⟨m,hm⟩:∃ n,q.length=n:=⟨_,rfl⟩;have HN:=hid hn;have HM:=hid hm;rw [hn] at hla HC ⊢;rw [hm] at hlb HD ⊢;clear hu hv hc hd hn hm;go_enter Tryz.func48,Tryz.ntmps48
 by_cases hnm:n=m
 . have hI:((n:Int) != (m:Int))=false:=by simp [hnm]
   subst hnm;go_wp2_with fail;obtain ⟨W,hWW,k0,k1,HXW,eW⟩:=Q4e w 47 #[.slice A n ca] 47 #[.slice B n cb];rw [hWW];clear hWW;obtain ⟨gp,hgp⟩:∃ x,w.heap.size=x:=⟨_,rfl⟩;rw [hgp] at k0 k1 ⊢;have K0:=hid k0;have K1:=hid k1;clear k0 k1 hgp eW
   go_loopw [5] (fun i wr=>∃ k:Nat,k <= n /\ i=.int .i64 k /\ (∀ j,j < k -> Z6h (p.getD j default)=Z6h (q.getD j default)) /\ Ext W wr) (fun i _=>n - (intOf i).toNat)
   case atStart=>exact ⟨0,Nat.zero_le _,rfl,fun j h=>absurd h (Nat.not_lt_zero _),Ext.refl _⟩
   case round =>
    obtain ⟨k,hk,rfl,heq,hx0⟩:=hrel;have HEQ:=hid heq;have HX0:=hid hx0;have hxr:Ext w wr:=HXW.out.trans hx0;have c0:wr.cell? ⟨gp,0,none⟩=some (.slice A n ca):=(K0.out.ext hx0).cell 0;have HK0:=hid (K0.out.ext hx0);have HK1:=hid (K1.out.ext hx0)
    by_cases hlt:k < n
    . have hkI:(k:Int) < n:=by omega
      obtain ⟨b1,o1,x,rfl,-,-,e1,hi1⟩:=HC.out k hlt;obtain ⟨b2,o2,y,rfl,-,-,f1,hi2⟩:=HD.out k hlt;replace e1:=hxr.cell e1;replace f1:=hxr.cell f1;obtain ⟨_,_,x0,he,-,e0,-,hi1⟩:=HC.out k hlt;cases he;obtain ⟨_,_,y0,he,-,f0,-,hi2⟩:=HD.out k hlt;cases he;replace e0:=hxr.cell e0;replace f0:=hxr.cell f0;have HSI:=hid (fun (w1:World) (hx:Ext wr w1)=>Q8i w1 _ _ _ _ ((hi1.ext hxr).ext hx) ((hi2.ext hxr).ext hx));obtain ⟨X,capx,rfl,-,-,-⟩:=hi1.opened;obtain ⟨Y,capy,rfl,-,-,-⟩:=hi2.opened;have hkp:k < p.length:=by rw [HN.out]; exact hlt
      have hkq:k < q.length:=by rw [HM.out]; exact hlt
      have HNE:=hid (fun h=>Y2g (f:=Z6h) hkp hkq h);have hpj:∀ (z:List Rul) j,Z6h (z.getD j default)=(Q0n z j,Q3p z j):=fun z j=>rfl;rw [hpj,hpj] at HNE;have HPJ:=hid hpj;obtain ⟨cp,hcp⟩:∃ c,Q0n p k=c:=⟨_,rfl⟩;obtain ⟨cq,hcq⟩:∃ c,Q0n q k=c:=⟨_,rfl⟩;obtain ⟨sp,hsp⟩:∃ c,Q3p p k=c:=⟨_,rfl⟩;obtain ⟨sq,hsq⟩:∃ c,Q3p q k=c:=⟨_,rfl⟩;rw [hcp,hcq] at HSI HNE;rw [hsp,hsq] at HNE;rw [hcp] at e0;rw [hcq] at f0;rw [hsp] at e1;rw [hsq] at f1;have HCP:=hid hcp;have HCQ:=hid hcq;have HSP:=hid hsp;have HSQ:=hid hsq;have HE0:=hid e0;have HE1:=hid e1;have HF0:=hid f0;have HF1:=hid f1;obtain ⟨d,hd⟩:∃ d,(sp != sq)=d:=⟨_,rfl⟩;have HDD:=hid hd;obtain ⟨e,he⟩:∃ d,decide (cp=cq)=d:=⟨_,rfl⟩;have HEE:=hid he;rw [he] at HSI;have hdr:=(Ext.refl wr).drew;clear heq hx0 hxr hi1 hi2 hcp hcq hsp hsq hpj hkp hkq e0 e1 f0 f1 hd he;obtain ⟨wq,rfl⟩:∃ Z,Z=wr:=⟨_,rfl⟩;go_wp2_with fail;refine Flow.Q1o [.p,.w,.p,.p,.p,.w,.p,.w,.p,.p,.p,.w,.p,.p,.p,.w,.p,.p,.p,.w,.p,.w,.p,.p,.p,.w,.w,.p,.p] [0,1,2,3,4,5,6,7,8,9,10,11,12,13,14,15,16,17,18,19,20,21,22,23,24,25,26,27,28] [[],[0],[],[1,2],[3],[4],[],[6],[],[7,8],[9],[10],[5,11],[12],[13],[13,14],[13],[13,15,16],[13,17],[13,18],[13],[13,20],[13],[13,21,22],[13,23],[13,24],[13,19,25],[13,26],[13,27]]
       [.c 0 (.pointer (some ⟨gp,0,none⟩)),.c 1 (.slice (some ⟨b1,o1,none⟩) n ca),.c 2 (.int .i64 (k:Int)),.c 3 (.pointer (some ⟨b1,o1 + k * 2,none⟩)),.c 4 (.pointer (some ⟨b1,o1 + k * 2 + 1,none⟩)),.c 5 (.bool sp),.c 6 (.pointer (some ⟨gp + 1,0,none⟩)),.c 7 (.slice (some ⟨b2,o2,none⟩) n cb),.c 8 (.int .i64 (k:Int)),.c 9 (.pointer (some ⟨b2,o2 + k * 2,none⟩)),.c 10 (.pointer (some ⟨b2,o2 + k * 2 + 1,none⟩)),.c 11 (.bool sq),.c 12 (.bool d),.c 13 (.bool d),.c 14 (Q2u d (.pointer (some ⟨gp,0,none⟩))),.c 15 (Q2u d (.slice (some ⟨b1,o1,none⟩) n ca)),.c 16 (Q2u d (.int .i64 (k:Int))),.c 17 (Q2u d (.pointer (some ⟨b1,o1 + k * 2,none⟩))),.c 18 (Q2u d (.pointer (some ⟨b1,o1 + k * 2,none⟩))),.c 19 (Q2u d (.slice X cp.length capx)),.c 20 (Q2u d (.pointer (some ⟨gp + 1,0,none⟩))),.c 21 (Q2u d (.slice (some ⟨b2,o2,none⟩) n cb)),.c 22 (Q2u d (.int .i64 (k:Int))),.c 23 (Q2u d (.pointer (some ⟨b2,o2 + k * 2,none⟩))),.c 24 (Q2u d (.pointer (some ⟨b2,o2 + k * 2,none⟩))),.c 25 (Q2u d (.slice Y cq.length capy)),.c 26 (Q2u d (.bool e)),.c 27 (Q2u d (.bool (!e))),.c 28 (.bool (d || !e))]
       (by kernel_rfl) rfl (by kernel_rfl) ⟨?g0,?g1,?g2,?g3,?g4,?g5,?g6,?g7,?g8,?g9,?g10,?g11,?g12,?g13,?g14,?g15,?g16,?g17,?g18,?g19,?g20,?g21,?g22,?g23,?g24,?g25,?g26,?g27,?g28,trivial⟩ ?post
      case g0 | g2 | g6 | g8=>
       intro v w1 hx;intro bb hbb;subst hbb;refine ⟨_,fun w=>?_,rfl⟩;go_simp
      case g1 | g7=>
       intro v w1 hx;(repeat intro (zq:v _=_));intro bb hbb;subst hbb;have n0:w1.cell? ⟨gp,0,none⟩=some (.slice (some ⟨b1,o1,none⟩) n ca):=(HK0.out.ext (hdr.trans hx)).cell 0;have n1:w1.cell? ⟨gp + 1,0,none⟩=some (.slice (some ⟨b2,o2,none⟩) n cb):=(HK1.out.ext (hdr.trans hx)).cell 0;intro K hK;go_simp;exact hK _ _ (Ext.refl _) rfl
      case g3 | g4 | g9 | g10 | g13=>
       intro v w1 hx;(repeat intro (zq:v _=_));intro bb hbb;subst hbb;refine ⟨_,fun w=>?_,rfl⟩;go_simp
      case g5=>
       intro v w1 hx;(repeat intro (zq:v _=_));intro bb hbb;subst hbb;have n0:=(hdr.trans hx).cell HE1.out;intro K hK;go_simp;exact hK _ _ (Ext.refl _) rfl
      case g11=>
       intro v w1 hx;(repeat intro (zq:v _=_));intro bb hbb;subst hbb;have n0:=(hdr.trans hx).cell HF1.out;intro K hK;go_simp;exact hK _ _ (Ext.refl _) rfl
      case g12=>
       intro v w1 hx;(repeat intro (zq:v _=_));intro bb hbb;subst hbb;refine ⟨.bool d,fun w=>?_,rfl⟩;go_simp
       (first | exact HDD.out | (rw [<- HDD.out]; rfl) | (rw [<- HDD.out]; cases sp <;> cases sq <;> rfl))
      case g14 | g16 | g20 | g22=>
       intro v w1 hx;(repeat intro (zq:v _=_));intro bb hbb;cases d with
       | true=>exact Flow.Q1c (d:=33) rfl rfl (by rw [hbb]; simp only [size_put]; exact (by decide:33 < 49)) (by rw [hbb]; dsimp only; (try simp (discharger:=decide) only [eval_put_ne]); rw [Q0a (by simp only [size_put]; exact (by decide:33 < 49))]; assumption) rfl
       | false =>
         refine Flow.Q0l (d:=33) rfl rfl (by rw [hbb]; simp only [size_put]; exact (by decide:33 < 49)) (by rw [hbb]; dsimp only; (try simp (discharger:=decide) only [eval_put_ne]); rw [Q0a (by simp only [size_put]; exact (by decide:33 < 49))]; assumption) ?_
         subst hbb;refine ⟨_,fun w=>?_,rfl⟩;go_simp
      case g15=>
       intro v w1 hx (q13:v 13=_) (q14:v 14=Q2u d (.pointer (some ⟨gp,0,none⟩)));intro bb hbb;have n0:w1.cell? ⟨gp,0,none⟩=some (.slice (some ⟨b1,o1,none⟩) n ca):=(HK0.out.ext (hdr.trans hx)).cell 0;cases d with
       | true=>exact Flow.Q1c (d:=33) rfl rfl (by rw [hbb]; simp only [size_put]; exact (by decide:33 < 49)) (by rw [hbb]; dsimp only; (try simp (discharger:=decide) only [eval_put_ne]); rw [Q0a (by simp only [size_put]; exact (by decide:33 < 49))]; exact q13) rfl
       | false =>
         replace q14:v 14=.pointer (some ⟨gp,0,none⟩):=q14;refine Flow.Q0l (d:=33) rfl rfl (by rw [hbb]; simp only [size_put]; exact (by decide:33 < 49)) (by rw [hbb]; dsimp only; (try simp (discharger:=decide) only [eval_put_ne]); rw [Q0a (by simp only [size_put]; exact (by decide:33 < 49))]; exact q13) ?_
         subst hbb;intro K hK;go_simp;exact hK _ _ (Ext.refl _) rfl
      case g17=>
       intro v w1 hx (q13:v 13=_) (q15:v 15=Q2u d (.slice (some ⟨b1,o1,none⟩) n ca)) (q16:v 16=Q2u d (.int .i64 (k:Int)));intro bb hbb;cases d with
       | true=>exact Flow.Q1c (d:=33) rfl rfl (by rw [hbb]; simp only [size_put]; exact (by decide:33 < 49)) (by rw [hbb]; dsimp only; (try simp (discharger:=decide) only [eval_put_ne]); rw [Q0a (by simp only [size_put]; exact (by decide:33 < 49))]; exact q13) rfl
       | false =>
         replace q15:v 15=.slice (some ⟨b1,o1,none⟩) n ca:=q15;replace q16:v 16=.int .i64 (k:Int):=q16;refine Flow.Q0l (d:=33) rfl rfl (by rw [hbb]; simp only [size_put]; exact (by decide:33 < 49)) (by rw [hbb]; dsimp only; (try simp (discharger:=decide) only [eval_put_ne]); rw [Q0a (by simp only [size_put]; exact (by decide:33 < 49))]; exact q13) ?_
         subst hbb;refine ⟨_,fun w=>?_,rfl⟩;go_simp
      case g18=>
       intro v w1 hx (q13:v 13=_) (q17:v 17=Q2u d (.pointer (some ⟨b1,o1 + k * 2,none⟩)));intro bb hbb;cases d with
       | true=>exact Flow.Q1c (d:=33) rfl rfl (by rw [hbb]; simp only [size_put]; exact (by decide:33 < 49)) (by rw [hbb]; dsimp only; (try simp (discharger:=decide) only [eval_put_ne]); rw [Q0a (by simp only [size_put]; exact (by decide:33 < 49))]; exact q13) rfl
       | false =>
         replace q17:v 17=.pointer (some ⟨b1,o1 + k * 2,none⟩):=q17;refine Flow.Q0l (d:=33) rfl rfl (by rw [hbb]; simp only [size_put]; exact (by decide:33 < 49)) (by rw [hbb]; dsimp only; (try simp (discharger:=decide) only [eval_put_ne]); rw [Q0a (by simp only [size_put]; exact (by decide:33 < 49))]; exact q13) ?_
         subst hbb;refine ⟨_,fun w=>?_,rfl⟩;go_simp
      case g19=>
       intro v w1 hx (q13:v 13=_) (q18:v 18=Q2u d (.pointer (some ⟨b1,o1 + k * 2,none⟩)));intro bb hbb;have n0:=(hdr.trans hx).cell HE0.out;cases d with
       | true=>exact Flow.Q1c (d:=33) rfl rfl (by rw [hbb]; simp only [size_put]; exact (by decide:33 < 49)) (by rw [hbb]; dsimp only; (try simp (discharger:=decide) only [eval_put_ne]); rw [Q0a (by simp only [size_put]; exact (by decide:33 < 49))]; exact q13) rfl
       | false =>
         replace q18:v 18=.pointer (some ⟨b1,o1 + k * 2,none⟩):=q18;refine Flow.Q0l (d:=33) rfl rfl (by rw [hbb]; simp only [size_put]; exact (by decide:33 < 49)) (by rw [hbb]; dsimp only; (try simp (discharger:=decide) only [eval_put_ne]); rw [Q0a (by simp only [size_put]; exact (by decide:33 < 49))]; exact q13) ?_
         subst hbb;intro K hK;go_simp;exact hK _ _ (Ext.refl _) rfl
      case g21=>
       intro v w1 hx (q13:v 13=_) (q20:v 20=Q2u d (.pointer (some ⟨gp + 1,0,none⟩)));intro bb hbb;have n0:w1.cell? ⟨gp + 1,0,none⟩=some (.slice (some ⟨b2,o2,none⟩) n cb):=(HK1.out.ext (hdr.trans hx)).cell 0;cases d with
       | true=>exact Flow.Q1c (d:=33) rfl rfl (by rw [hbb]; simp only [size_put]; exact (by decide:33 < 49)) (by rw [hbb]; dsimp only; (try simp (discharger:=decide) only [eval_put_ne]); rw [Q0a (by simp only [size_put]; exact (by decide:33 < 49))]; exact q13) rfl
       | false =>
         replace q20:v 20=.pointer (some ⟨gp + 1,0,none⟩):=q20;refine Flow.Q0l (d:=33) rfl rfl (by rw [hbb]; simp only [size_put]; exact (by decide:33 < 49)) (by rw [hbb]; dsimp only; (try simp (discharger:=decide) only [eval_put_ne]); rw [Q0a (by simp only [size_put]; exact (by decide:33 < 49))]; exact q13) ?_
         subst hbb;intro K hK;go_simp;exact hK _ _ (Ext.refl _) rfl
      case g23=>
       intro v w1 hx (q13:v 13=_) (q21:v 21=Q2u d (.slice (some ⟨b2,o2,none⟩) n cb)) (q22:v 22=Q2u d (.int .i64 (k:Int)));intro bb hbb;cases d with
       | true=>exact Flow.Q1c (d:=33) rfl rfl (by rw [hbb]; simp only [size_put]; exact (by decide:33 < 49)) (by rw [hbb]; dsimp only; (try simp (discharger:=decide) only [eval_put_ne]); rw [Q0a (by simp only [size_put]; exact (by decide:33 < 49))]; exact q13) rfl
       | false =>
         replace q21:v 21=.slice (some ⟨b2,o2,none⟩) n cb:=q21;replace q22:v 22=.int .i64 (k:Int):=q22;refine Flow.Q0l (d:=33) rfl rfl (by rw [hbb]; simp only [size_put]; exact (by decide:33 < 49)) (by rw [hbb]; dsimp only; (try simp (discharger:=decide) only [eval_put_ne]); rw [Q0a (by simp only [size_put]; exact (by decide:33 < 49))]; exact q13) ?_
         subst hbb;refine ⟨_,fun w=>?_,rfl⟩;go_simp
      case g24=>
       intro v w1 hx (q13:v 13=_) (q23:v 23=Q2u d (.pointer (some ⟨b2,o2 + k * 2,none⟩)));intro bb hbb;cases d with
       | true=>exact Flow.Q1c (d:=33) rfl rfl (by rw [hbb]; simp only [size_put]; exact (by decide:33 < 49)) (by rw [hbb]; dsimp only; (try simp (discharger:=decide) only [eval_put_ne]); rw [Q0a (by simp only [size_put]; exact (by decide:33 < 49))]; exact q13) rfl
       | false =>
         replace q23:v 23=.pointer (some ⟨b2,o2 + k * 2,none⟩):=q23;refine Flow.Q0l (d:=33) rfl rfl (by rw [hbb]; simp only [size_put]; exact (by decide:33 < 49)) (by rw [hbb]; dsimp only; (try simp (discharger:=decide) only [eval_put_ne]); rw [Q0a (by simp only [size_put]; exact (by decide:33 < 49))]; exact q13) ?_
         subst hbb;refine ⟨_,fun w=>?_,rfl⟩;go_simp
      case g25=>
       intro v w1 hx (q13:v 13=_) (q24:v 24=Q2u d (.pointer (some ⟨b2,o2 + k * 2,none⟩)));intro bb hbb;have n0:=(hdr.trans hx).cell HF0.out;cases d with
       | true=>exact Flow.Q1c (d:=33) rfl rfl (by rw [hbb]; simp only [size_put]; exact (by decide:33 < 49)) (by rw [hbb]; dsimp only; (try simp (discharger:=decide) only [eval_put_ne]); rw [Q0a (by simp only [size_put]; exact (by decide:33 < 49))]; exact q13) rfl
       | false =>
         replace q24:v 24=.pointer (some ⟨b2,o2 + k * 2,none⟩):=q24;refine Flow.Q0l (d:=33) rfl rfl (by rw [hbb]; simp only [size_put]; exact (by decide:33 < 49)) (by rw [hbb]; dsimp only; (try simp (discharger:=decide) only [eval_put_ne]); rw [Q0a (by simp only [size_put]; exact (by decide:33 < 49))]; exact q13) ?_
         subst hbb;intro K hK;go_simp;exact hK _ _ (Ext.refl _) rfl
      case g26=>
       intro v w1 hx (q13:v 13=_) (q19:v 19=Q2u d (.slice X cp.length capx)) (q25:v 25=Q2u d (.slice Y cq.length capy));intro bb hbb;cases d with
       | true=>exact Flow.Q1c (d:=33) rfl rfl (by rw [hbb]; simp only [size_put]; exact (by decide:33 < 49)) (by rw [hbb]; dsimp only; (try simp (discharger:=decide) only [eval_put_ne]); rw [Q0a (by simp only [size_put]; exact (by decide:33 < 49))]; exact q13) rfl
       | false =>
         replace q19:v 19=.slice X cp.length capx:=q19;replace q25:v 25=.slice Y cq.length capy:=q25;refine Flow.Q0l (d:=33) rfl rfl (by rw [hbb]; simp only [size_put]; exact (by decide:33 < 49)) (by rw [hbb]; dsimp only; (try simp (discharger:=decide) only [eval_put_ne]); rw [Q0a (by simp only [size_put]; exact (by decide:33 < 49))]; exact q13) ?_
         subst hbb;intro K hK;go_simp;refine Q0e (HSI.out w1 (hdr.trans hx)) ?_;rintro e w2 ⟨rfl,hx2⟩;exact ⟨_,rfl,hK _ _ hx2 rfl⟩
      case g27=>
       intro v w1 hx (q13:v 13=_) (q26:v 26=Q2u d (.bool e));intro bb hbb;cases d with
       | true=>exact Flow.Q1c (d:=33) rfl rfl (by rw [hbb]; simp only [size_put]; exact (by decide:33 < 49)) (by rw [hbb]; dsimp only; (try simp (discharger:=decide) only [eval_put_ne]); rw [Q0a (by simp only [size_put]; exact (by decide:33 < 49))]; exact q13) rfl
       | false =>
         replace q26:v 26=.bool e:=q26;refine Flow.Q0l (d:=33) rfl rfl (by rw [hbb]; simp only [size_put]; exact (by decide:33 < 49)) (by rw [hbb]; dsimp only; (try simp (discharger:=decide) only [eval_put_ne]); rw [Q0a (by simp only [size_put]; exact (by decide:33 < 49))]; exact q13) ?_
         subst hbb;refine ⟨_,fun w=>?_,rfl⟩;go_simp
      case g28=>
       intro v w1 hx (q13:v 13=_) (q27:v 27=Q2u d (.bool (!e)));intro bb hbb;subst hbb;refine ⟨.bool (d || !e),fun w=>?_,rfl⟩
       cases d with
       | true=>go_simp
       | false=>go_simp; rfl
      case post =>
       intro v w1 hx;(iterate 14 intro (zq:v _=_));intro (q14:v 14=Q2u d (.pointer (some ⟨gp,0,none⟩))) (q15:v 15=Q2u d (.slice (some ⟨b1,o1,none⟩) n ca)) (q16:v 16=Q2u d (.int .i64 (k:Int))) (q17:v 17=Q2u d (.pointer (some ⟨b1,o1 + k * 2,none⟩))) (q18:v 18=Q2u d (.pointer (some ⟨b1,o1 + k * 2,none⟩))) (q19:v 19=Q2u d (.slice X cp.length capx)) (q20:v 20=Q2u d (.pointer (some ⟨gp + 1,0,none⟩))) (q21:v 21=Q2u d (.slice (some ⟨b2,o2,none⟩) n cb)) (q22:v 22=Q2u d (.int .i64 (k:Int))) (q23:v 23=Q2u d (.pointer (some ⟨b2,o2 + k * 2,none⟩))) (q24:v 24=Q2u d (.pointer (some ⟨b2,o2 + k * 2,none⟩))) (q25:v 25=Q2u d (.slice Y cq.length capy)) (q26:v 26=Q2u d (.bool e)) (q27:v 27=Q2u d (.bool (!e)));(iterate 1 intro (zq:v _=_));simp only [Flow.All,Flow.acts,Act.put];go_simp;have HX6:=hid (HX0.out.trans (hdr.trans hx));clear hx hdr q14 q15 q16 q17 q18 q19 q20 q21 q22 q23 q24 q25 q26 q27;(repeat clear zq);obtain ⟨f,hf⟩:∃ f,(d || !e)=f:=⟨_,rfl⟩
       rw [hf];have HF:=hid hf;clear hf;cases f with
       | true =>
         have hne:X5t p q=false:=by
          refine decide_eq_false (HNE.out fun h=>?_);injection h with h1 h2;have h3:=HF.out;rw [<- HDD.out,<- HEE.out,h1,h2] at h3;simp at h3
         have HR:=hid hne;clear hne;go_wp2;go_ret;exact ⟨by rw [HR.out]; rfl,HXW.out.trans HX6.out⟩
       | false =>
         have hke:Z6h (p.getD k default)=Z6h (q.getD k default):=by
          rw [HPJ.out,HPJ.out,HCP.out,HCQ.out,HSP.out,HSQ.out];have h3:=HF.out;rw [<- HDD.out,<- HEE.out] at h3;simp at h3;rw [h3.1,h3.2]
         have HKE:=hid hke;clear hke;go_wp2;go_roundw
         case rel=>exact ⟨k + 1,by omega,by go_num,(fun j hj=>by
          rcases Nat.lt_or_ge j k with h | h
          . exact HEQ.out j h
          . have e:j=k:=by omega
            subst e; exact HKE.out),HX6.out⟩
         case measure=>simp [intOf]; omega
    . have hkI:¬ (k:Int) < n:=by omega
      have hkn:k=n:=by omega
      have hr:X5t p q=true:=decide_eq_true (Y1o (by rw [HN.out,HM.out]) (by rw [HN.out,<- hkn]; exact heq))
      have HR:=hid hr;clear heq hr;go_wp2;go_ret;exact ⟨by rw [HR.out]; rfl,hxr⟩
 . have hI:((n:Int) != (m:Int))=true:=by simp; omega
   have hr:X5t p q=false:=decide_eq_false fun h=>hnm (by have:=congrArg List.length h; simpa [HN.out,HM.out] using this)
   have HR:=hid hr;clear hnm hr;go_wp2;go_ret;exact ⟨by rw [HR.out]; rfl,by first | exact (Ext.box _ _).trans (Ext.box _ _) | exact Ext.refl _⟩
theorem X6q (w:World) (u v:Value) (p q:List Grp) (hu:Q4j w u p) (hv:Q4j w v q) :
    Calls Tryz.prog 74 #[u,v] w fun e w'=>e=.returned (.bool (X4d p q)) /\ Ext w w':=by
 obtain ⟨A,ca,rfl,hla,-,hc⟩:=hu.opened;obtain ⟨B,cb,rfl,hlb,-,hd⟩:=hv.opened;have HC:=hid hc;have HD:=hid hd;obtain ⟨n,hn⟩:∃ n,p.length=n:=⟨_,rfl⟩;obtain ⟨m,hm⟩:∃ n,q.length=n:=⟨_,rfl⟩;have HN:=hid hn;have HM:=hid hm;rw [hn] at hla HC ⊢;rw [hm] at hlb HD ⊢;clear hu hv hc hd hn hm;go_enter Tryz.func74,Tryz.ntmps74
 by_cases hnm:n=m
 . have hI:((n:Int) != (m:Int))=false:=by simp [hnm]
   subst hnm;go_wp2_with fail;have HXW:=hid (Ext.refl w)
   go_loopw [5] (fun i wr=>∃ k:Nat,k <= n /\ i=.int .i64 k /\ (∀ j,j < k -> Z6j (p.getD j default)=Z6j (q.getD j default)) /\ Ext w wr) (fun i _=>n - (intOf i).toNat)
   case atStart=>exact ⟨0,Nat.zero_le _,rfl,fun j h=>absurd h (Nat.not_lt_zero _),Ext.refl _⟩
   case round =>
    obtain ⟨k,hk,rfl,heq,hx0⟩:=hrel;have HEQ:=hid heq;have HX0:=hid hx0;have hxr:Ext w wr:=HXW.out.trans hx0
    by_cases hlt:k < n
    . have hkI:(k:Int) < n:=by omega
      obtain ⟨b1,o1,x,rfl,-,-,e1,hi1⟩:=HC.out k hlt;obtain ⟨b2,o2,y,rfl,-,-,f1,hi2⟩:=HD.out k hlt;replace e1:=hxr.cell e1;replace f1:=hxr.cell f1;obtain ⟨_,_,x0,he,-,e0,-,hi1⟩:=HC.out k hlt;cases he;obtain ⟨_,_,y0,he,-,f0,-,hi2⟩:=HD.out k hlt;cases he;replace e0:=hxr.cell e0;replace f0:=hxr.cell f0;have HSI:=hid (fun (w1:World) (hx:Ext wr w1)=>Q8i w1 _ _ _ _ ((hi1.ext hxr).ext hx) ((hi2.ext hxr).ext hx));obtain ⟨X,capx,rfl,-,-,-⟩:=hi1.opened;obtain ⟨Y,capy,rfl,-,-,-⟩:=hi2.opened;have hkp:k < p.length:=by rw [HN.out]; exact hlt
      have hkq:k < q.length:=by rw [HM.out]; exact hlt
      have HNE:=hid (fun h=>Y2g (f:=Z6j) hkp hkq h);have hpj:∀ (z:List Grp) j,Z6j (z.getD j default)=(Q5i z j,Q8d z j):=fun z j=>rfl;rw [hpj,hpj] at HNE;have HPJ:=hid hpj;obtain ⟨cp,hcp⟩:∃ c,Q5i p k=c:=⟨_,rfl⟩;obtain ⟨cq,hcq⟩:∃ c,Q5i q k=c:=⟨_,rfl⟩;obtain ⟨sp,hsp⟩:∃ c,Q8d p k=c:=⟨_,rfl⟩;obtain ⟨sq,hsq⟩:∃ c,Q8d q k=c:=⟨_,rfl⟩;rw [hcp,hcq] at HSI HNE;rw [hsp,hsq] at HNE;rw [hcp] at e0;rw [hcq] at f0;rw [hsp] at e1;rw [hsq] at f1;have HCP:=hid hcp;have HCQ:=hid hcq;have HSP:=hid hsp;have HSQ:=hid hsq;have HE0:=hid e0;have HE1:=hid e1;have HF0:=hid f0;have HF1:=hid f1;obtain ⟨d,hd⟩:∃ d,(sp != sq)=d:=⟨_,rfl⟩;have HDD:=hid hd;obtain ⟨e,he⟩:∃ d,decide (cp=cq)=d:=⟨_,rfl⟩;have HEE:=hid he;rw [he] at HSI;have hdr:=(Ext.refl wr).drew;clear heq hx0 hxr hi1 hi2 hcp hcq hsp hsq hpj hkp hkq e0 e1 f0 f1 hd he;obtain ⟨wq,rfl⟩:∃ Z,Z=wr:=⟨_,rfl⟩;go_wp2_with fail;refine Flow.Q1o [.p,.p,.p,.p,.w,.p,.p,.p,.p,.w,.p,.p,.p,.p,.p,.p,.w,.p,.p,.p,.p,.w,.w,.p,.p] [0,1,2,3,4,5,6,7,8,9,10,11,12,13,14,15,16,17,18,19,20,21,22,23,24] [[],[],[0,1],[2],[3],[],[],[5,6],[7],[8],[4,9],[10],[11],[11],[11,12,13],[11,14],[11,15],[11],[11],[11,17,18],[11,19],[11,20],[11,16,21],[11,22],[11,23]]
       [.c 0 (.slice (some ⟨b1,o1,none⟩) n ca),.c 1 (.int .i64 (k:Int)),.c 2 (.pointer (some ⟨b1,o1 + k * 2,none⟩)),.c 3 (.pointer (some ⟨b1,o1 + k * 2 + 1,none⟩)),.c 4 (.int .i64 sp),.c 5 (.slice (some ⟨b2,o2,none⟩) n cb),.c 6 (.int .i64 (k:Int)),.c 7 (.pointer (some ⟨b2,o2 + k * 2,none⟩)),.c 8 (.pointer (some ⟨b2,o2 + k * 2 + 1,none⟩)),.c 9 (.int .i64 sq),.c 10 (.bool d),.c 11 (.bool d),.c 12 (Q2u d (.slice (some ⟨b1,o1,none⟩) n ca)),.c 13 (Q2u d (.int .i64 (k:Int))),.c 14 (Q2u d (.pointer (some ⟨b1,o1 + k * 2,none⟩))),.c 15 (Q2u d (.pointer (some ⟨b1,o1 + k * 2,none⟩))),.c 16 (Q2u d (.slice X cp.length capx)),.c 17 (Q2u d (.slice (some ⟨b2,o2,none⟩) n cb)),.c 18 (Q2u d (.int .i64 (k:Int))),.c 19 (Q2u d (.pointer (some ⟨b2,o2 + k * 2,none⟩))),.c 20 (Q2u d (.pointer (some ⟨b2,o2 + k * 2,none⟩))),.c 21 (Q2u d (.slice Y cq.length capy)),.c 22 (Q2u d (.bool e)),.c 23 (Q2u d (.bool (!e))),.c 24 (.bool (d || !e))]
       (by kernel_rfl) rfl (by kernel_rfl) ⟨?g0,?g1,?g2,?g3,?g4,?g5,?g6,?g7,?g8,?g9,?g10,?g11,?g12,?g13,?g14,?g15,?g16,?g17,?g18,?g19,?g20,?g21,?g22,?g23,?g24,trivial⟩ ?post
      case g0 | g1 | g5 | g6=>
       intro v w1 hx;intro bb hbb;subst hbb;refine ⟨_,fun w=>?_,rfl⟩;go_simp
      case g2 | g3 | g7 | g8 | g11=>
       intro v w1 hx;(repeat intro (zq:v _=_));intro bb hbb;subst hbb;refine ⟨_,fun w=>?_,rfl⟩;go_simp
      case g4=>
       intro v w1 hx;(repeat intro (zq:v _=_));intro bb hbb;subst hbb;have n0:=(hdr.trans hx).cell HE1.out;intro K hK;go_simp;exact hK _ _ (Ext.refl _) rfl
      case g9=>
       intro v w1 hx;(repeat intro (zq:v _=_));intro bb hbb;subst hbb;have n0:=(hdr.trans hx).cell HF1.out;intro K hK;go_simp;exact hK _ _ (Ext.refl _) rfl
      case g10=>
       intro v w1 hx;(repeat intro (zq:v _=_));intro bb hbb;subst hbb;refine ⟨.bool d,fun w=>?_,rfl⟩;go_simp
       (first | exact HDD.out | (rw [<- HDD.out]; rfl))
      case g12 | g13 | g17 | g18=>
       intro v w1 hx;(repeat intro (zq:v _=_));intro bb hbb;cases d with
       | true=>exact Flow.Q1c (d:=28) rfl rfl (by rw [hbb]; simp only [size_put]; exact (by decide:28 < 42)) (by rw [hbb]; dsimp only; (try simp (discharger:=decide) only [eval_put_ne]); rw [Q0a (by simp only [size_put]; exact (by decide:28 < 42))]; assumption) rfl
       | false =>
         refine Flow.Q0l (d:=28) rfl rfl (by rw [hbb]; simp only [size_put]; exact (by decide:28 < 42)) (by rw [hbb]; dsimp only; (try simp (discharger:=decide) only [eval_put_ne]); rw [Q0a (by simp only [size_put]; exact (by decide:28 < 42))]; assumption) ?_
         subst hbb;refine ⟨_,fun w=>?_,rfl⟩;go_simp
      case g14=>
       intro v w1 hx (q11:v 11=_) (q12:v 12=Q2u d (.slice (some ⟨b1,o1,none⟩) n ca)) (q13:v 13=Q2u d (.int .i64 (k:Int)));intro bb hbb;cases d with
       | true=>exact Flow.Q1c (d:=28) rfl rfl (by rw [hbb]; simp only [size_put]; exact (by decide:28 < 42)) (by rw [hbb]; dsimp only; (try simp (discharger:=decide) only [eval_put_ne]); rw [Q0a (by simp only [size_put]; exact (by decide:28 < 42))]; exact q11) rfl
       | false =>
         replace q12:v 12=.slice (some ⟨b1,o1,none⟩) n ca:=q12;replace q13:v 13=.int .i64 (k:Int):=q13;refine Flow.Q0l (d:=28) rfl rfl (by rw [hbb]; simp only [size_put]; exact (by decide:28 < 42)) (by rw [hbb]; dsimp only; (try simp (discharger:=decide) only [eval_put_ne]); rw [Q0a (by simp only [size_put]; exact (by decide:28 < 42))]; exact q11) ?_
         subst hbb;refine ⟨_,fun w=>?_,rfl⟩;go_simp
      case g15=>
       intro v w1 hx (q11:v 11=_) (q14:v 14=Q2u d (.pointer (some ⟨b1,o1 + k * 2,none⟩)));intro bb hbb;cases d with
       | true=>exact Flow.Q1c (d:=28) rfl rfl (by rw [hbb]; simp only [size_put]; exact (by decide:28 < 42)) (by rw [hbb]; dsimp only; (try simp (discharger:=decide) only [eval_put_ne]); rw [Q0a (by simp only [size_put]; exact (by decide:28 < 42))]; exact q11) rfl
       | false =>
         replace q14:v 14=.pointer (some ⟨b1,o1 + k * 2,none⟩):=q14;refine Flow.Q0l (d:=28) rfl rfl (by rw [hbb]; simp only [size_put]; exact (by decide:28 < 42)) (by rw [hbb]; dsimp only; (try simp (discharger:=decide) only [eval_put_ne]); rw [Q0a (by simp only [size_put]; exact (by decide:28 < 42))]; exact q11) ?_
         subst hbb;refine ⟨_,fun w=>?_,rfl⟩;go_simp
      case g16=>
       intro v w1 hx (q11:v 11=_) (q15:v 15=Q2u d (.pointer (some ⟨b1,o1 + k * 2,none⟩)));intro bb hbb;have n0:=(hdr.trans hx).cell HE0.out;cases d with
       | true=>exact Flow.Q1c (d:=28) rfl rfl (by rw [hbb]; simp only [size_put]; exact (by decide:28 < 42)) (by rw [hbb]; dsimp only; (try simp (discharger:=decide) only [eval_put_ne]); rw [Q0a (by simp only [size_put]; exact (by decide:28 < 42))]; exact q11) rfl
       | false =>
         replace q15:v 15=.pointer (some ⟨b1,o1 + k * 2,none⟩):=q15;refine Flow.Q0l (d:=28) rfl rfl (by rw [hbb]; simp only [size_put]; exact (by decide:28 < 42)) (by rw [hbb]; dsimp only; (try simp (discharger:=decide) only [eval_put_ne]); rw [Q0a (by simp only [size_put]; exact (by decide:28 < 42))]; exact q11) ?_
         subst hbb;intro K hK;go_simp;exact hK _ _ (Ext.refl _) rfl
      case g19=>
       intro v w1 hx (q11:v 11=_) (q17:v 17=Q2u d (.slice (some ⟨b2,o2,none⟩) n cb)) (q18:v 18=Q2u d (.int .i64 (k:Int)));intro bb hbb;cases d with
       | true=>exact Flow.Q1c (d:=28) rfl rfl (by rw [hbb]; simp only [size_put]; exact (by decide:28 < 42)) (by rw [hbb]; dsimp only; (try simp (discharger:=decide) only [eval_put_ne]); rw [Q0a (by simp only [size_put]; exact (by decide:28 < 42))]; exact q11) rfl
       | false =>
         replace q17:v 17=.slice (some ⟨b2,o2,none⟩) n cb:=q17;replace q18:v 18=.int .i64 (k:Int):=q18;refine Flow.Q0l (d:=28) rfl rfl (by rw [hbb]; simp only [size_put]; exact (by decide:28 < 42)) (by rw [hbb]; dsimp only; (try simp (discharger:=decide) only [eval_put_ne]); rw [Q0a (by simp only [size_put]; exact (by decide:28 < 42))]; exact q11) ?_
         subst hbb;refine ⟨_,fun w=>?_,rfl⟩;go_simp
      case g20=>
       intro v w1 hx (q11:v 11=_) (q19:v 19=Q2u d (.pointer (some ⟨b2,o2 + k * 2,none⟩)));intro bb hbb;cases d with
       | true=>exact Flow.Q1c (d:=28) rfl rfl (by rw [hbb]; simp only [size_put]; exact (by decide:28 < 42)) (by rw [hbb]; dsimp only; (try simp (discharger:=decide) only [eval_put_ne]); rw [Q0a (by simp only [size_put]; exact (by decide:28 < 42))]; exact q11) rfl
       | false =>
         replace q19:v 19=.pointer (some ⟨b2,o2 + k * 2,none⟩):=q19;refine Flow.Q0l (d:=28) rfl rfl (by rw [hbb]; simp only [size_put]; exact (by decide:28 < 42)) (by rw [hbb]; dsimp only; (try simp (discharger:=decide) only [eval_put_ne]); rw [Q0a (by simp only [size_put]; exact (by decide:28 < 42))]; exact q11) ?_
         subst hbb;refine ⟨_,fun w=>?_,rfl⟩;go_simp
      case g21=>
       intro v w1 hx (q11:v 11=_) (q20:v 20=Q2u d (.pointer (some ⟨b2,o2 + k * 2,none⟩)));intro bb hbb;have n0:=(hdr.trans hx).cell HF0.out;cases d with
       | true=>exact Flow.Q1c (d:=28) rfl rfl (by rw [hbb]; simp only [size_put]; exact (by decide:28 < 42)) (by rw [hbb]; dsimp only; (try simp (discharger:=decide) only [eval_put_ne]); rw [Q0a (by simp only [size_put]; exact (by decide:28 < 42))]; exact q11) rfl
       | false =>
         replace q20:v 20=.pointer (some ⟨b2,o2 + k * 2,none⟩):=q20;refine Flow.Q0l (d:=28) rfl rfl (by rw [hbb]; simp only [size_put]; exact (by decide:28 < 42)) (by rw [hbb]; dsimp only; (try simp (discharger:=decide) only [eval_put_ne]); rw [Q0a (by simp only [size_put]; exact (by decide:28 < 42))]; exact q11) ?_
         subst hbb;intro K hK;go_simp;exact hK _ _ (Ext.refl _) rfl
      case g22=>
       intro v w1 hx (q11:v 11=_) (q16:v 16=Q2u d (.slice X cp.length capx)) (q21:v 21=Q2u d (.slice Y cq.length capy));intro bb hbb;cases d with
       | true=>exact Flow.Q1c (d:=28) rfl rfl (by rw [hbb]; simp only [size_put]; exact (by decide:28 < 42)) (by rw [hbb]; dsimp only; (try simp (discharger:=decide) only [eval_put_ne]); rw [Q0a (by simp only [size_put]; exact (by decide:28 < 42))]; exact q11) rfl
       | false =>
         replace q16:v 16=.slice X cp.length capx:=q16;replace q21:v 21=.slice Y cq.length capy:=q21;refine Flow.Q0l (d:=28) rfl rfl (by rw [hbb]; simp only [size_put]; exact (by decide:28 < 42)) (by rw [hbb]; dsimp only; (try simp (discharger:=decide) only [eval_put_ne]); rw [Q0a (by simp only [size_put]; exact (by decide:28 < 42))]; exact q11) ?_
         subst hbb;intro K hK;go_simp;refine Q0e (HSI.out w1 (hdr.trans hx)) ?_;rintro e w2 ⟨rfl,hx2⟩;exact ⟨_,rfl,hK _ _ hx2 rfl⟩
      case g23=>
       intro v w1 hx (q11:v 11=_) (q22:v 22=Q2u d (.bool e));intro bb hbb;cases d with
       | true=>exact Flow.Q1c (d:=28) rfl rfl (by rw [hbb]; simp only [size_put]; exact (by decide:28 < 42)) (by rw [hbb]; dsimp only; (try simp (discharger:=decide) only [eval_put_ne]); rw [Q0a (by simp only [size_put]; exact (by decide:28 < 42))]; exact q11) rfl
       | false =>
         replace q22:v 22=.bool e:=q22;refine Flow.Q0l (d:=28) rfl rfl (by rw [hbb]; simp only [size_put]; exact (by decide:28 < 42)) (by rw [hbb]; dsimp only; (try simp (discharger:=decide) only [eval_put_ne]); rw [Q0a (by simp only [size_put]; exact (by decide:28 < 42))]; exact q11) ?_
         subst hbb;refine ⟨_,fun w=>?_,rfl⟩;go_simp
      case g24=>
       intro v w1 hx (q11:v 11=_) (q23:v 23=Q2u d (.bool (!e)));intro bb hbb;subst hbb;refine ⟨.bool (d || !e),fun w=>?_,rfl⟩
       cases d with
       | true=>go_simp
       | false=>go_simp; rfl
      case post =>
       intro v w1 hx;(iterate 12 intro (zq:v _=_));intro (q12:v 12=Q2u d (.slice (some ⟨b1,o1,none⟩) n ca)) (q13:v 13=Q2u d (.int .i64 (k:Int))) (q14:v 14=Q2u d (.pointer (some ⟨b1,o1 + k * 2,none⟩))) (q15:v 15=Q2u d (.pointer (some ⟨b1,o1 + k * 2,none⟩))) (q16:v 16=Q2u d (.slice X cp.length capx)) (q17:v 17=Q2u d (.slice (some ⟨b2,o2,none⟩) n cb)) (q18:v 18=Q2u d (.int .i64 (k:Int))) (q19:v 19=Q2u d (.pointer (some ⟨b2,o2 + k * 2,none⟩))) (q20:v 20=Q2u d (.pointer (some ⟨b2,o2 + k * 2,none⟩))) (q21:v 21=Q2u d (.slice Y cq.length capy)) (q22:v 22=Q2u d (.bool e)) (q23:v 23=Q2u d (.bool (!e)));(iterate 1 intro (zq:v _=_));simp only [Flow.All,Flow.acts,Act.put];go_simp;have HX6:=hid (HX0.out.trans (hdr.trans hx));clear hx hdr q12 q13 q14 q15 q16 q17 q18 q19 q20 q21 q22 q23;(repeat clear zq);obtain ⟨f,hf⟩:∃ f,(d || !e)=f:=⟨_,rfl⟩
       rw [hf];have HF:=hid hf;clear hf;cases f with
       | true =>
         have hne:X4d p q=false:=by
          refine decide_eq_false (HNE.out fun h=>?_);injection h with h1 h2;have h3:=HF.out;rw [<- HDD.out,<- HEE.out,h1,h2] at h3;simp at h3
         have HR:=hid hne;clear hne;go_wp2;go_ret;exact ⟨by rw [HR.out]; rfl,HXW.out.trans HX6.out⟩
       | false =>
         have hke:Z6j (p.getD k default)=Z6j (q.getD k default):=by
          rw [HPJ.out,HPJ.out,HCP.out,HCQ.out,HSP.out,HSQ.out];have h3:=HF.out;rw [<- HDD.out,<- HEE.out] at h3;simp at h3;rw [h3.1,h3.2]
         have HKE:=hid hke;clear hke;go_wp2;go_roundw
         case rel=>exact ⟨k + 1,by omega,by go_num,(fun j hj=>by
          rcases Nat.lt_or_ge j k with h | h
          . exact HEQ.out j h
          . have e:j=k:=by omega
            subst e; exact HKE.out),HX6.out⟩
         case measure=>simp [intOf]; omega
    . have hkI:¬ (k:Int) < n:=by omega
      have hkn:k=n:=by omega
      have hr:X4d p q=true:=decide_eq_true (Y1o (by rw [HN.out,HM.out]) (by rw [HN.out,<- hkn]; exact heq))
      have HR:=hid hr;clear heq hr;go_wp2;go_ret;exact ⟨by rw [HR.out]; rfl,hxr⟩
 . have hI:((n:Int) != (m:Int))=true:=by simp; omega
   have hr:X4d p q=false:=decide_eq_false fun h=>hnm (by have:=congrArg List.length h; simpa [HN.out,HM.out] using this)
   have HR:=hid hr;clear hnm hr;go_wp2;go_ret;exact ⟨by rw [HR.out]; rfl,Ext.refl _⟩
end Go.Proofs
