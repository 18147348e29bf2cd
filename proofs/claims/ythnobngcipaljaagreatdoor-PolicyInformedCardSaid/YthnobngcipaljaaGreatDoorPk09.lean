/- Part of the proof of a law. -/
import Derived.Test.YthnobngcipaljaaGreatDoorPk08
set_option maxRecDepth 1000000
set_option maxHeartbeats 64000000
set_option linter.unusedVariables false
set_option linter.unusedSimpArgs false
set_option linter.constructorNameAsVariable false
open Go.Lib (hid)
namespace Go.Proofs
open Go.RowKit Go.Tw Go.Flow Tryz
attribute [local go_sem] Oper.semAt_some
theorem fzg09 {u:Type} {a b:u} (h:a=b:=by rw [hbb]; dsimp only; (try simp (discharger:=decide) only [Flow.eval_put_ne]); rw [Flow.Q0a (by (try simp only [Flow.size_put]); exact of_decide_eq_true rfl)]; try assumption):a=b:=h
theorem fzh09 {a b:Nat} (h:a < b:=by rw [hbb]; simp only [Flow.size_put]; exact of_decide_eq_true rfl):a < b:=h
theorem fzb09 {a b:Nat} (h:a < b:=by rw [hbb]; simp only [Flow.size_put]; show _ < 50; decide):a < b:=h
theorem fzc09 {u:Type} {a b:u} (h:a=b:=by rw [hbb]; dsimp only; (try simp (discharger:=decide) only [Flow.eval_put_ne]); rw [Flow.Q0a (by simp only [Flow.size_put]; show _ < 50; decide)]; assumption):a=b:=h
theorem fze09 {u:Type} {a b:u} (h:a=b:=by rw [hbb]; dsimp only; (try simp (discharger:=decide) only [Flow.eval_put_ne]); rfl):a=b:=h
def Q3x (b:Bool) (x:Value):Value:=if b then undef else x
def J4x (r:Rul):List Int × Bool:=(r.classes,r.close)
def J4r (g:Grp):List Int × Int:=(g.members,g.weight)
def X9s (a b:List Rul):Bool:=decide (a.map J4x=b.map J4x)
def Y0l (a b:List Grp):Bool:=decide (a.map J4r=b.map J4r)
theorem Y8w {α β:Type} [Inhabited α] {f:α -> β} {a b:List α} (hl:a.length=b.length) (h:∀ j,j < a.length -> f (a.getD j default)=f (b.getD j default)):a.map f=b.map f:=by
 apply List.ext_getElem
 . simp [hl]
 . intro j h1 h2
   have O2:j < a.length:=by simpa using h1
   have G9:j < b.length:=by simpa using h2
   have:=h j O2;rw [Q0u _ O2,Q0u _ G9] at this
   simpa using this
theorem Y6i {α β:Type} [Inhabited α] {f:α -> β} {a b:List α} {j:Nat} (h1:j < a.length) (h2:j < b.length) (h:f (a.getD j default) ≠ f (b.getD j default)):a.map f ≠ b.map f:=by
 intro he
 apply h
 have:=congrArg (fun l=>l[j]?) he;simp only [List.getElem?_map,List.getElem?_eq_getElem h1,List.getElem?_eq_getElem h2,Option.map_some,Option.some.injEq] at this;rw [Q0u _ h1,Q0u _ h2]; exact this
theorem Y2h (w:World) (u v:Value) (p q:List Rul) (hu:Q0l w u p) (hv:Q0l w v q) :
    Calls prog 48 #[u,v] w fun e w'=>e=.returned (.bool (X9s p q)) /\ Ext w w':=by
 obtain ⟨u,rfl,hu⟩:=hu;obtain ⟨v,rfl,hv⟩:=hv;obtain ⟨A,ca,rfl,mw,-,hc⟩:=hu.opened;obtain ⟨B,cb,rfl,ry,-,hd⟩:=hv.opened;have HC:=hid hc;have HD:=hid hd;obtain ⟨n,hn⟩:∃ n,p.length=n:=⟨_,rfl⟩;obtain ⟨m,hm⟩:∃ n,q.length=n:=⟨_,rfl⟩;have HN:=hid hn;have HM:=hid hm;rw [hn] at mw HC ⊢;rw [hm] at ry HD ⊢;clear hu hv hc hd hn hm;go_enter func48,ntmps48
 by_cases Aj:n=m
 . have hI:((n:Int) != (m:Int))=false:=by simp [Aj]
   subst Aj;go_wp2_with fail;obtain ⟨W,Mq,k0,k1,Rq,eW⟩:=Q4p w 47 #[.slice A n ca] 47 #[.slice B n cb];rw [Mq];clear Mq;obtain ⟨gp,lz⟩:∃ x,w.heap.size=x:=⟨_,rfl⟩;rw [lz] at k0 k1 ⊢;have K0:=hid k0;have K1:=hid k1;clear k0 k1 lz eW
   go_loopw [5] (fun i wr=>∃ k:Nat,k <= n /\ i=.int .i64 k /\ (∀ j,j < k -> J4x (p.getD j default)=J4x (q.getD j default)) /\ Ext W wr) (fun i _=>n - (intOf i).toNat)
   case atStart=>exact ⟨0,Nat.zero_le _,rfl,fun j h=>absurd h (Nat.not_lt_zero _),Ext.refl _⟩
   case round =>
    obtain ⟨k,hk,rfl,L0,Ej⟩:=hrel;have Z5:=hid L0;have Jg:=hid Ej;have Gq:Ext w wr:=Rq.out.trans Ej;have c0:wr.cell? ⟨gp,0,none⟩=some (.slice A n ca):=(K0.out.ext Ej).cell 0;have Fx:=hid (K0.out.ext Ej);have vz:=hid (K1.out.ext Ej)
    by_cases Uq:k < n
    . have zj:(k:Int) < n:=by omega
      obtain ⟨b1,o1,x,rfl,-,-,e1,Ww⟩:=HC.out k Uq;obtain ⟨b2,o2,y,rfl,-,-,f1,Fk⟩:=HD.out k Uq;replace e1:=Gq.cell e1;replace f1:=Gq.cell f1;obtain ⟨_,_,x0,he,-,e0,-,Ww⟩:=HC.out k Uq;cases he;obtain ⟨_,_,y0,he,-,f0,-,Fk⟩:=HD.out k Uq;cases he;replace e0:=Gq.cell e0;replace f0:=Gq.cell f0;have C5:=hid (fun (w1:World) (hx:Ext wr w1)=>Q2s w1 _ _ _ _ ((Ww.ext Gq).ext hx) ((Fk.ext Gq).ext hx));obtain ⟨X,Sq,rfl,-,-,-⟩:=Ww.opened;obtain ⟨Y,Jq,rfl,-,-,-⟩:=Fk.opened;have Oj:k < p.length:=by rw [HN.out]; exact Uq
      have l6:k < q.length:=by rw [HM.out]; exact Uq
      have ek:=hid (fun h=>Y6i (f:=J4x) Oj l6 h);have o7:∀ (z:List Rul) j,J4x (z.getD j default)=(Q0m z j,Q2h z j):=fun z j=>rfl;rw [o7,o7] at ek;have N7:=hid o7;obtain ⟨cp,J0⟩:∃ c,Q0m p k=c:=⟨_,rfl⟩;obtain ⟨cq,kg⟩:∃ c,Q0m q k=c:=⟨_,rfl⟩;obtain ⟨sp,B0⟩:∃ c,Q2h p k=c:=⟨_,rfl⟩;obtain ⟨sq,n7⟩:∃ c,Q2h q k=c:=⟨_,rfl⟩;rw [J0,kg] at C5 ek;rw [B0,n7] at ek;rw [J0] at e0;rw [kg] at f0;rw [B0] at e1;rw [n7] at f1;have j6:=hid J0;have DX:=hid kg;have O3:=hid B0;have Oc:=hid n7;have Nz:=hid e0;have Mw:=hid e1;have VJ:=hid f0;have Nc:=hid f1;obtain ⟨d,hd⟩:∃ d,(sp != sq)=d:=⟨_,rfl⟩;have R2:=hid hd;obtain ⟨e,he⟩:∃ d,decide (cp=cq)=d:=⟨_,rfl⟩;have J7:=hid he;rw [he] at C5;have Xq:=(Ext.refl wr).drew;clear L0 Ej Gq Ww Fk J0 kg B0 n7 o7 Oj l6 e0 e1 f0 f1 hd he;obtain ⟨wq,rfl⟩:∃ Z,Z=wr:=⟨_,rfl⟩;go_wp2_with fail;refine Flow.Q1h [.p,.w,.p,.p,.p,.w,.p,.w,.p,.p,.p,.w,.p,.p,.p,.w,.p,.p,.p,.w,.p,.w,.p,.p,.p,.w,.w,.p,.p] [0,1,2,3,4,5,6,7,8,9,10,11,12,13,14,15,16,17,18,19,20,21,22,23,24,25,26,27,28] [[],[0],[],[1,2],[3],[4],[],[6],[],[7,8],[9],[10],[5,11],[12],[13],[13,14],[13],[13,15,16],[13,17],[13,18],[13],[13,20],[13],[13,21,22],[13,23],[13,24],[13,19,25],[13,26],[13,27]]
       [.c 0 (.pointer (some ⟨gp,0,none⟩)),.c 1 (.slice (some ⟨b1,o1,none⟩) n ca),.c 2 (.int .i64 (k:Int)),.c 3 (.pointer (some ⟨b1,o1 + k * 2,none⟩)),.c 4 (.pointer (some ⟨b1,o1 + k * 2 + 1,none⟩)),.c 5 (.bool sp),.c 6 (.pointer (some ⟨gp + 1,0,none⟩)),.c 7 (.slice (some ⟨b2,o2,none⟩) n cb),.c 8 (.int .i64 (k:Int)),.c 9 (.pointer (some ⟨b2,o2 + k * 2,none⟩)),.c 10 (.pointer (some ⟨b2,o2 + k * 2 + 1,none⟩)),.c 11 (.bool sq),.c 12 (.bool d),.c 13 (.bool d),.c 14 (Q3x d (.pointer (some ⟨gp,0,none⟩))),.c 15 (Q3x d (.slice (some ⟨b1,o1,none⟩) n ca)),.c 16 (Q3x d (.int .i64 (k:Int))),.c 17 (Q3x d (.pointer (some ⟨b1,o1 + k * 2,none⟩))),.c 18 (Q3x d (.pointer (some ⟨b1,o1 + k * 2,none⟩))),.c 19 (Q3x d (.slice X cp.length Sq)),.c 20 (Q3x d (.pointer (some ⟨gp + 1,0,none⟩))),.c 21 (Q3x d (.slice (some ⟨b2,o2,none⟩) n cb)),.c 22 (Q3x d (.int .i64 (k:Int))),.c 23 (Q3x d (.pointer (some ⟨b2,o2 + k * 2,none⟩))),.c 24 (Q3x d (.pointer (some ⟨b2,o2 + k * 2,none⟩))),.c 25 (Q3x d (.slice Y cq.length Jq)),.c 26 (Q3x d (.bool e)),.c 27 (Q3x d (.bool (!e))),.c 28 (.bool (d || !e))]
       (by kernel_rfl) rfl (by kernel_rfl) ⟨?g0,?g1,?g2,?g3,?g4,?g5,?g6,?g7,?g8,?g9,?g10,?g11,?g12,?g13,?g14,?g15,?g16,?g17,?g18,?g19,?g20,?g21,?g22,?g23,?g24,?g25,?g26,?g27,?g28,trivial⟩ ?post
      case g0 | g2 | g6 | g8=>
       intro v w1 hx;intro bb hbb;subst hbb;refine ⟨_,fun w=>?_,rfl⟩;go_simp
      case g1 | g7=>
       intro v w1 hx;(repeat intro (zq:v _=_));intro bb hbb;subst hbb;have n0:w1.cell? ⟨gp,0,none⟩=some (.slice (some ⟨b1,o1,none⟩) n ca):=(Fx.out.ext (Xq.trans hx)).cell 0;have n1:w1.cell? ⟨gp + 1,0,none⟩=some (.slice (some ⟨b2,o2,none⟩) n cb):=(vz.out.ext (Xq.trans hx)).cell 0;intro K hK;go_simp;exact hK _ _ (Ext.refl _) rfl
      case g3 | g4 | g9 | g10 | g13=>
       intro v w1 hx;(repeat intro (zq:v _=_));intro bb hbb;subst hbb;refine ⟨_,fun w=>?_,rfl⟩;go_simp
      case g5=>
       intro v w1 hx;(repeat intro (zq:v _=_));intro bb hbb;subst hbb;have n0:=(Xq.trans hx).cell Mw.out;intro K hK;go_simp;exact hK _ _ (Ext.refl _) rfl
      case g11=>
       intro v w1 hx;(repeat intro (zq:v _=_));intro bb hbb;subst hbb;have n0:=(Xq.trans hx).cell Nc.out;intro K hK;go_simp;exact hK _ _ (Ext.refl _) rfl
      case g12=>
       intro v w1 hx;(repeat intro (zq:v _=_));intro bb hbb;subst hbb;refine ⟨.bool d,fun w=>?_,rfl⟩;go_simp
       (first | exact R2.out | (rw [<- R2.out]; rfl) | (rw [<- R2.out]; cases sp <;> cases sq <;> rfl))
      case g14 | g16 | g20 | g22=>
       intro v w1 hx;(repeat intro (zq:v _=_));intro bb hbb;cases d with
       | true=>exact Flow.Q1i (d:=33) rfl rfl fzh09 (fzg09) rfl
       | false =>
         refine Flow.Q0d (d:=33) rfl rfl fzh09 (fzg09) ?_
         subst hbb;refine ⟨_,fun w=>?_,rfl⟩;go_simp
      case g15=>
       intro v w1 hx (q13:v 13=_) (q14:v 14=Q3x d (.pointer (some ⟨gp,0,none⟩)));intro bb hbb;have n0:w1.cell? ⟨gp,0,none⟩=some (.slice (some ⟨b1,o1,none⟩) n ca):=(Fx.out.ext (Xq.trans hx)).cell 0;cases d with
       | true=>exact Flow.Q1i (d:=33) rfl rfl fzh09 (fzg09) rfl
       | false =>
         replace q14:v 14=.pointer (some ⟨gp,0,none⟩):=q14;refine Flow.Q0d (d:=33) rfl rfl fzh09 (fzg09) ?_
         subst hbb;intro K hK;go_simp;exact hK _ _ (Ext.refl _) rfl
      case g17=>
       intro v w1 hx (q13:v 13=_) (q15:v 15=Q3x d (.slice (some ⟨b1,o1,none⟩) n ca)) (q16:v 16=Q3x d (.int .i64 (k:Int)));intro bb hbb;cases d with
       | true=>exact Flow.Q1i (d:=33) rfl rfl fzh09 (fzg09) rfl
       | false =>
         replace q15:v 15=.slice (some ⟨b1,o1,none⟩) n ca:=q15;replace q16:v 16=.int .i64 (k:Int):=q16;refine Flow.Q0d (d:=33) rfl rfl fzh09 (fzg09) ?_
         subst hbb;refine ⟨_,fun w=>?_,rfl⟩;go_simp
      case g18=>
       intro v w1 hx (q13:v 13=_) (q17:v 17=Q3x d (.pointer (some ⟨b1,o1 + k * 2,none⟩)));intro bb hbb;cases d with
       | true=>exact Flow.Q1i (d:=33) rfl rfl fzh09 (fzg09) rfl
       | false =>
         replace q17:v 17=.pointer (some ⟨b1,o1 + k * 2,none⟩):=q17;refine Flow.Q0d (d:=33) rfl rfl fzh09 (fzg09) ?_
         subst hbb;refine ⟨_,fun w=>?_,rfl⟩;go_simp
      case g19=>
       intro v w1 hx (q13:v 13=_) (q18:v 18=Q3x d (.pointer (some ⟨b1,o1 + k * 2,none⟩)));intro bb hbb;have n0:=(Xq.trans hx).cell Nz.out;cases d with
       | true=>exact Flow.Q1i (d:=33) rfl rfl fzh09 (fzg09) rfl
       | false =>
         replace q18:v 18=.pointer (some ⟨b1,o1 + k * 2,none⟩):=q18;refine Flow.Q0d (d:=33) rfl rfl fzh09 (fzg09) ?_
         subst hbb;intro K hK;go_simp;exact hK _ _ (Ext.refl _) rfl
      case g21=>
       intro v w1 hx (q13:v 13=_) (q20:v 20=Q3x d (.pointer (some ⟨gp + 1,0,none⟩)));intro bb hbb;have n0:w1.cell? ⟨gp + 1,0,none⟩=some (.slice (some ⟨b2,o2,none⟩) n cb):=(vz.out.ext (Xq.trans hx)).cell 0;cases d with
       | true=>exact Flow.Q1i (d:=33) rfl rfl fzh09 (fzg09) rfl
       | false =>
         replace q20:v 20=.pointer (some ⟨gp + 1,0,none⟩):=q20;refine Flow.Q0d (d:=33) rfl rfl fzh09 (fzg09) ?_
         subst hbb;intro K hK;go_simp;exact hK _ _ (Ext.refl _) rfl
      case g23=>
       intro v w1 hx (q13:v 13=_) (q21:v 21=Q3x d (.slice (some ⟨b2,o2,none⟩) n cb)) (q22:v 22=Q3x d (.int .i64 (k:Int)));intro bb hbb;cases d with
       | true=>exact Flow.Q1i (d:=33) rfl rfl fzh09 (fzg09) rfl
       | false =>
         replace q21:v 21=.slice (some ⟨b2,o2,none⟩) n cb:=q21;replace q22:v 22=.int .i64 (k:Int):=q22;refine Flow.Q0d (d:=33) rfl rfl fzh09 (fzg09) ?_
         subst hbb;refine ⟨_,fun w=>?_,rfl⟩;go_simp
      case g24=>
       intro v w1 hx (q13:v 13=_) (q23:v 23=Q3x d (.pointer (some ⟨b2,o2 + k * 2,none⟩)));intro bb hbb;cases d with
       | true=>exact Flow.Q1i (d:=33) rfl rfl fzh09 (fzg09) rfl
       | false =>
         replace q23:v 23=.pointer (some ⟨b2,o2 + k * 2,none⟩):=q23;refine Flow.Q0d (d:=33) rfl rfl fzh09 (fzg09) ?_
         subst hbb;refine ⟨_,fun w=>?_,rfl⟩;go_simp
      case g25=>
       intro v w1 hx (q13:v 13=_) (q24:v 24=Q3x d (.pointer (some ⟨b2,o2 + k * 2,none⟩)));intro bb hbb;have n0:=(Xq.trans hx).cell VJ.out;cases d with
       | true=>exact Flow.Q1i (d:=33) rfl rfl fzh09 (fzg09) rfl
       | false =>
         replace q24:v 24=.pointer (some ⟨b2,o2 + k * 2,none⟩):=q24;refine Flow.Q0d (d:=33) rfl rfl fzh09 (fzg09) ?_
         subst hbb;intro K hK;go_simp;exact hK _ _ (Ext.refl _) rfl
      case g26=>
       intro v w1 hx (q13:v 13=_) (q19:v 19=Q3x d (.slice X cp.length Sq)) (q25:v 25=Q3x d (.slice Y cq.length Jq));intro bb hbb;cases d with
       | true=>exact Flow.Q1i (d:=33) rfl rfl fzh09 (fzg09) rfl
       | false =>
         replace q19:v 19=.slice X cp.length Sq:=q19;replace q25:v 25=.slice Y cq.length Jq:=q25;refine Flow.Q0d (d:=33) rfl rfl fzh09 (fzg09) ?_
         subst hbb;intro K hK;go_simp;refine Q0e (C5.out w1 (Xq.trans hx)) ?_;rintro e w2 ⟨rfl,Nq⟩;exact ⟨_,rfl,hK _ _ Nq rfl⟩
      case g27=>
       intro v w1 hx (q13:v 13=_) (q26:v 26=Q3x d (.bool e));intro bb hbb;cases d with
       | true=>exact Flow.Q1i (d:=33) rfl rfl fzh09 (fzg09) rfl
       | false =>
         replace q26:v 26=.bool e:=q26;refine Flow.Q0d (d:=33) rfl rfl fzh09 (fzg09) ?_
         subst hbb;refine ⟨_,fun w=>?_,rfl⟩;go_simp
      case g28=>
       intro v w1 hx (q13:v 13=_) (q27:v 27=Q3x d (.bool (!e)));intro bb hbb;subst hbb;refine ⟨.bool (d || !e),fun w=>?_,rfl⟩
       cases d with
       | true=>go_simp
       | false=>go_simp; rfl
      case post =>
       intro v w1 hx;(iterate 14 intro (zq:v _=_));intro (q14:v 14=Q3x d (.pointer (some ⟨gp,0,none⟩))) (q15:v 15=Q3x d (.slice (some ⟨b1,o1,none⟩) n ca)) (q16:v 16=Q3x d (.int .i64 (k:Int))) (q17:v 17=Q3x d (.pointer (some ⟨b1,o1 + k * 2,none⟩))) (q18:v 18=Q3x d (.pointer (some ⟨b1,o1 + k * 2,none⟩))) (q19:v 19=Q3x d (.slice X cp.length Sq)) (q20:v 20=Q3x d (.pointer (some ⟨gp + 1,0,none⟩))) (q21:v 21=Q3x d (.slice (some ⟨b2,o2,none⟩) n cb)) (q22:v 22=Q3x d (.int .i64 (k:Int))) (q23:v 23=Q3x d (.pointer (some ⟨b2,o2 + k * 2,none⟩))) (q24:v 24=Q3x d (.pointer (some ⟨b2,o2 + k * 2,none⟩))) (q25:v 25=Q3x d (.slice Y cq.length Jq)) (q26:v 26=Q3x d (.bool e)) (q27:v 27=Q3x d (.bool (!e)));(iterate 1 intro (zq:v _=_));simp only [Flow.All,Flow.acts,Act.put];go_simp;have bj:=hid (Jg.out.trans (Xq.trans hx));clear hx Xq q14 q15 q16 q17 q18 q19 q20 q21 q22 q23 q24 q25 q26 q27;(repeat clear zq);obtain ⟨f,hf⟩:∃ f,(d || !e)=f:=⟨_,rfl⟩
       rw [hf];have HF:=hid hf;clear hf;cases f with
       | true =>
         have hne:X9s p q=false:=by
          refine decide_eq_false (ek.out fun h=>?_);injection h with h1 h2;have h3:=HF.out;rw [<- R2.out,<- J7.out,h1,h2] at h3;simp at h3
         have HR:=hid hne;clear hne;go_wp2;go_ret;exact ⟨by rw [HR.out]; rfl,Rq.out.trans bj.out⟩
       | false =>
         have lj:J4x (p.getD k default)=J4x (q.getD k default):=by
          rw [N7.out,N7.out,j6.out,DX.out,O3.out,Oc.out];have h3:=HF.out;rw [<- R2.out,<- J7.out] at h3;simp at h3;rw [h3.1,h3.2]
         have Kk:=hid lj;clear lj;go_wp2;go_roundw
         case rel=>exact ⟨k + 1,by omega,by go_num,(fun j hj=>by
          rcases Nat.lt_or_ge j k with h | h
          . exact Z5.out j h
          . have e:j=k:=by omega
            subst e; exact Kk.out),bj.out⟩
         case measure=>simp [intOf]; omega
    . have zj:¬ (k:Int) < n:=by omega
      have rj:k=n:=by omega
      have hr:X9s p q=true:=decide_eq_true (Y8w (by rw [HN.out,HM.out]) (by rw [HN.out,<- rj]; exact L0))
      have HR:=hid hr;clear L0 hr;go_wp2;go_ret;exact ⟨by rw [HR.out]; rfl,Gq⟩
 . have hI:((n:Int) != (m:Int))=true:=by simp; omega
   have hr:X9s p q=false:=decide_eq_false fun h=>Aj (by have:=congrArg List.length h; simpa [HN.out,HM.out] using this)
   have HR:=hid hr;clear Aj hr;go_wp2;go_ret;exact ⟨by rw [HR.out]; rfl,by first | exact (Ext.box _ _).trans (Ext.box _ _) | exact Ext.refl _⟩
theorem Y1r (w:World) (u v:Value) (p q:List Grp) (hu:Q5s w u p) (hv:Q5s w v q) :
    Calls prog 74 #[u,v] w fun e w'=>e=.returned (.bool (Y0l p q)) /\ Ext w w':=by
 obtain ⟨A,ca,rfl,mw,-,hc⟩:=hu.opened;obtain ⟨B,cb,rfl,ry,-,hd⟩:=hv.opened;have HC:=hid hc;have HD:=hid hd;obtain ⟨n,hn⟩:∃ n,p.length=n:=⟨_,rfl⟩;obtain ⟨m,hm⟩:∃ n,q.length=n:=⟨_,rfl⟩;have HN:=hid hn;have HM:=hid hm;rw [hn] at mw HC ⊢;rw [hm] at ry HD ⊢;clear hu hv hc hd hn hm;go_enter func74,ntmps74
 by_cases Aj:n=m
 . have hI:((n:Int) != (m:Int))=false:=by simp [Aj]
   subst Aj;go_wp2_with fail;have Rq:=hid (Ext.refl w)
   go_loopw [5] (fun i wr=>∃ k:Nat,k <= n /\ i=.int .i64 k /\ (∀ j,j < k -> J4r (p.getD j default)=J4r (q.getD j default)) /\ Ext w wr) (fun i _=>n - (intOf i).toNat)
   case atStart=>exact ⟨0,Nat.zero_le _,rfl,fun j h=>absurd h (Nat.not_lt_zero _),Ext.refl _⟩
   case round =>
    obtain ⟨k,hk,rfl,L0,Ej⟩:=hrel;have Z5:=hid L0;have Jg:=hid Ej;have Gq:Ext w wr:=Rq.out.trans Ej
    by_cases Uq:k < n
    . have zj:(k:Int) < n:=by omega
      obtain ⟨b1,o1,x,rfl,-,-,e1,Ww⟩:=HC.out k Uq;obtain ⟨b2,o2,y,rfl,-,-,f1,Fk⟩:=HD.out k Uq;replace e1:=Gq.cell e1;replace f1:=Gq.cell f1;obtain ⟨_,_,x0,he,-,e0,-,Ww⟩:=HC.out k Uq;cases he;obtain ⟨_,_,y0,he,-,f0,-,Fk⟩:=HD.out k Uq;cases he;replace e0:=Gq.cell e0;replace f0:=Gq.cell f0;have C5:=hid (fun (w1:World) (hx:Ext wr w1)=>Q2s w1 _ _ _ _ ((Ww.ext Gq).ext hx) ((Fk.ext Gq).ext hx));obtain ⟨X,Sq,rfl,-,-,-⟩:=Ww.opened;obtain ⟨Y,Jq,rfl,-,-,-⟩:=Fk.opened;have Oj:k < p.length:=by rw [HN.out]; exact Uq
      have l6:k < q.length:=by rw [HM.out]; exact Uq
      have ek:=hid (fun h=>Y6i (f:=J4r) Oj l6 h);have o7:∀ (z:List Grp) j,J4r (z.getD j default)=(Q6x z j,X0e z j):=fun z j=>rfl;rw [o7,o7] at ek;have N7:=hid o7;obtain ⟨cp,J0⟩:∃ c,Q6x p k=c:=⟨_,rfl⟩;obtain ⟨cq,kg⟩:∃ c,Q6x q k=c:=⟨_,rfl⟩;obtain ⟨sp,B0⟩:∃ c,X0e p k=c:=⟨_,rfl⟩;obtain ⟨sq,n7⟩:∃ c,X0e q k=c:=⟨_,rfl⟩;rw [J0,kg] at C5 ek;rw [B0,n7] at ek;rw [J0] at e0;rw [kg] at f0;rw [B0] at e1;rw [n7] at f1;have j6:=hid J0;have DX:=hid kg;have O3:=hid B0;have Oc:=hid n7;have Nz:=hid e0;have Mw:=hid e1;have VJ:=hid f0;have Nc:=hid f1;obtain ⟨d,hd⟩:∃ d,(sp != sq)=d:=⟨_,rfl⟩;have R2:=hid hd;obtain ⟨e,he⟩:∃ d,decide (cp=cq)=d:=⟨_,rfl⟩;have J7:=hid he;rw [he] at C5;have Xq:=(Ext.refl wr).drew;clear L0 Ej Gq Ww Fk J0 kg B0 n7 o7 Oj l6 e0 e1 f0 f1 hd he;obtain ⟨wq,rfl⟩:∃ Z,Z=wr:=⟨_,rfl⟩;go_wp2_with fail;refine Flow.Q1h [.p,.p,.p,.p,.w,.p,.p,.p,.p,.w,.p,.p,.p,.p,.p,.p,.w,.p,.p,.p,.p,.w,.w,.p,.p] [0,1,2,3,4,5,6,7,8,9,10,11,12,13,14,15,16,17,18,19,20,21,22,23,24] [[],[],[0,1],[2],[3],[],[],[5,6],[7],[8],[4,9],[10],[11],[11],[11,12,13],[11,14],[11,15],[11],[11],[11,17,18],[11,19],[11,20],[11,16,21],[11,22],[11,23]]
       [.c 0 (.slice (some ⟨b1,o1,none⟩) n ca),.c 1 (.int .i64 (k:Int)),.c 2 (.pointer (some ⟨b1,o1 + k * 2,none⟩)),.c 3 (.pointer (some ⟨b1,o1 + k * 2 + 1,none⟩)),.c 4 (.int .i64 sp),.c 5 (.slice (some ⟨b2,o2,none⟩) n cb),.c 6 (.int .i64 (k:Int)),.c 7 (.pointer (some ⟨b2,o2 + k * 2,none⟩)),.c 8 (.pointer (some ⟨b2,o2 + k * 2 + 1,none⟩)),.c 9 (.int .i64 sq),.c 10 (.bool d),.c 11 (.bool d),.c 12 (Q3x d (.slice (some ⟨b1,o1,none⟩) n ca)),.c 13 (Q3x d (.int .i64 (k:Int))),.c 14 (Q3x d (.pointer (some ⟨b1,o1 + k * 2,none⟩))),.c 15 (Q3x d (.pointer (some ⟨b1,o1 + k * 2,none⟩))),.c 16 (Q3x d (.slice X cp.length Sq)),.c 17 (Q3x d (.slice (some ⟨b2,o2,none⟩) n cb)),.c 18 (Q3x d (.int .i64 (k:Int))),.c 19 (Q3x d (.pointer (some ⟨b2,o2 + k * 2,none⟩))),.c 20 (Q3x d (.pointer (some ⟨b2,o2 + k * 2,none⟩))),.c 21 (Q3x d (.slice Y cq.length Jq)),.c 22 (Q3x d (.bool e)),.c 23 (Q3x d (.bool (!e))),.c 24 (.bool (d || !e))]
       (by kernel_rfl) rfl (by kernel_rfl) ⟨?g0,?g1,?g2,?g3,?g4,?g5,?g6,?g7,?g8,?g9,?g10,?g11,?g12,?g13,?g14,?g15,?g16,?g17,?g18,?g19,?g20,?g21,?g22,?g23,?g24,trivial⟩ ?post
      case g0 | g1 | g5 | g6=>
       intro v w1 hx;intro bb hbb;subst hbb;refine ⟨_,fun w=>?_,rfl⟩;go_simp
      case g2 | g3 | g7 | g8 | g11=>
       intro v w1 hx;(repeat intro (zq:v _=_));intro bb hbb;subst hbb;refine ⟨_,fun w=>?_,rfl⟩;go_simp
      case g4=>
       intro v w1 hx;(repeat intro (zq:v _=_));intro bb hbb;subst hbb;have n0:=(Xq.trans hx).cell Mw.out;intro K hK;go_simp;exact hK _ _ (Ext.refl _) rfl
      case g9=>
       intro v w1 hx;(repeat intro (zq:v _=_));intro bb hbb;subst hbb;have n0:=(Xq.trans hx).cell Nc.out;intro K hK;go_simp;exact hK _ _ (Ext.refl _) rfl
      case g10=>
       intro v w1 hx;(repeat intro (zq:v _=_));intro bb hbb;subst hbb;refine ⟨.bool d,fun w=>?_,rfl⟩;go_simp
       (first | exact R2.out | (rw [<- R2.out]; rfl))
      case g12 | g13 | g17 | g18=>
       intro v w1 hx;(repeat intro (zq:v _=_));intro bb hbb;cases d with
       | true=>exact Flow.Q1i (d:=28) rfl rfl fzh09 (fzg09) rfl
       | false =>
         refine Flow.Q0d (d:=28) rfl rfl fzh09 (fzg09) ?_
         subst hbb;refine ⟨_,fun w=>?_,rfl⟩;go_simp
      case g14=>
       intro v w1 hx (q11:v 11=_) (q12:v 12=Q3x d (.slice (some ⟨b1,o1,none⟩) n ca)) (q13:v 13=Q3x d (.int .i64 (k:Int)));intro bb hbb;cases d with
       | true=>exact Flow.Q1i (d:=28) rfl rfl fzh09 (fzg09) rfl
       | false =>
         replace q12:v 12=.slice (some ⟨b1,o1,none⟩) n ca:=q12;replace q13:v 13=.int .i64 (k:Int):=q13;refine Flow.Q0d (d:=28) rfl rfl fzh09 (fzg09) ?_
         subst hbb;refine ⟨_,fun w=>?_,rfl⟩;go_simp
      case g15=>
       intro v w1 hx (q11:v 11=_) (q14:v 14=Q3x d (.pointer (some ⟨b1,o1 + k * 2,none⟩)));intro bb hbb;cases d with
       | true=>exact Flow.Q1i (d:=28) rfl rfl fzh09 (fzg09) rfl
       | false =>
         replace q14:v 14=.pointer (some ⟨b1,o1 + k * 2,none⟩):=q14;refine Flow.Q0d (d:=28) rfl rfl fzh09 (fzg09) ?_
         subst hbb;refine ⟨_,fun w=>?_,rfl⟩;go_simp
      case g16=>
       intro v w1 hx (q11:v 11=_) (q15:v 15=Q3x d (.pointer (some ⟨b1,o1 + k * 2,none⟩)));intro bb hbb;have n0:=(Xq.trans hx).cell Nz.out;cases d with
       | true=>exact Flow.Q1i (d:=28) rfl rfl fzh09 (fzg09) rfl
       | false =>
         replace q15:v 15=.pointer (some ⟨b1,o1 + k * 2,none⟩):=q15;refine Flow.Q0d (d:=28) rfl rfl fzh09 (fzg09) ?_
         subst hbb;intro K hK;go_simp;exact hK _ _ (Ext.refl _) rfl
      case g19=>
       intro v w1 hx (q11:v 11=_) (q17:v 17=Q3x d (.slice (some ⟨b2,o2,none⟩) n cb)) (q18:v 18=Q3x d (.int .i64 (k:Int)));intro bb hbb;cases d with
       | true=>exact Flow.Q1i (d:=28) rfl rfl fzh09 (fzg09) rfl
       | false =>
         replace q17:v 17=.slice (some ⟨b2,o2,none⟩) n cb:=q17;replace q18:v 18=.int .i64 (k:Int):=q18;refine Flow.Q0d (d:=28) rfl rfl fzh09 (fzg09) ?_
         subst hbb;refine ⟨_,fun w=>?_,rfl⟩;go_simp
      case g20=>
       intro v w1 hx (q11:v 11=_) (q19:v 19=Q3x d (.pointer (some ⟨b2,o2 + k * 2,none⟩)));intro bb hbb;cases d with
       | true=>exact Flow.Q1i (d:=28) rfl rfl fzh09 (fzg09) rfl
       | false =>
         replace q19:v 19=.pointer (some ⟨b2,o2 + k * 2,none⟩):=q19;refine Flow.Q0d (d:=28) rfl rfl fzh09 (fzg09) ?_
         subst hbb;refine ⟨_,fun w=>?_,rfl⟩;go_simp
      case g21=>
       intro v w1 hx (q11:v 11=_) (q20:v 20=Q3x d (.pointer (some ⟨b2,o2 + k * 2,none⟩)));intro bb hbb;have n0:=(Xq.trans hx).cell VJ.out;cases d with
       | true=>exact Flow.Q1i (d:=28) rfl rfl fzh09 (fzg09) rfl
       | false =>
         replace q20:v 20=.pointer (some ⟨b2,o2 + k * 2,none⟩):=q20;refine Flow.Q0d (d:=28) rfl rfl fzh09 (fzg09) ?_
         subst hbb;intro K hK;go_simp;exact hK _ _ (Ext.refl _) rfl
      case g22=>
       intro v w1 hx (q11:v 11=_) (q16:v 16=Q3x d (.slice X cp.length Sq)) (q21:v 21=Q3x d (.slice Y cq.length Jq));intro bb hbb;cases d with
       | true=>exact Flow.Q1i (d:=28) rfl rfl fzh09 (fzg09) rfl
       | false =>
         replace q16:v 16=.slice X cp.length Sq:=q16;replace q21:v 21=.slice Y cq.length Jq:=q21;refine Flow.Q0d (d:=28) rfl rfl fzh09 (fzg09) ?_
         subst hbb;intro K hK;go_simp;refine Q0e (C5.out w1 (Xq.trans hx)) ?_;rintro e w2 ⟨rfl,Nq⟩;exact ⟨_,rfl,hK _ _ Nq rfl⟩
      case g23=>
       intro v w1 hx (q11:v 11=_) (q22:v 22=Q3x d (.bool e));intro bb hbb;cases d with
       | true=>exact Flow.Q1i (d:=28) rfl rfl fzh09 (fzg09) rfl
       | false =>
         replace q22:v 22=.bool e:=q22;refine Flow.Q0d (d:=28) rfl rfl fzh09 (fzg09) ?_
         subst hbb;refine ⟨_,fun w=>?_,rfl⟩;go_simp
      case g24=>
       intro v w1 hx (q11:v 11=_) (q23:v 23=Q3x d (.bool (!e)));intro bb hbb;subst hbb;refine ⟨.bool (d || !e),fun w=>?_,rfl⟩
       cases d with
       | true=>go_simp
       | false=>go_simp; rfl
      case post =>
       intro v w1 hx;(iterate 12 intro (zq:v _=_));intro (q12:v 12=Q3x d (.slice (some ⟨b1,o1,none⟩) n ca)) (q13:v 13=Q3x d (.int .i64 (k:Int))) (q14:v 14=Q3x d (.pointer (some ⟨b1,o1 + k * 2,none⟩))) (q15:v 15=Q3x d (.pointer (some ⟨b1,o1 + k * 2,none⟩))) (q16:v 16=Q3x d (.slice X cp.length Sq)) (q17:v 17=Q3x d (.slice (some ⟨b2,o2,none⟩) n cb)) (q18:v 18=Q3x d (.int .i64 (k:Int))) (q19:v 19=Q3x d (.pointer (some ⟨b2,o2 + k * 2,none⟩))) (q20:v 20=Q3x d (.pointer (some ⟨b2,o2 + k * 2,none⟩))) (q21:v 21=Q3x d (.slice Y cq.length Jq)) (q22:v 22=Q3x d (.bool e)) (q23:v 23=Q3x d (.bool (!e)));(iterate 1 intro (zq:v _=_));simp only [Flow.All,Flow.acts,Act.put];go_simp;have bj:=hid (Jg.out.trans (Xq.trans hx));clear hx Xq q12 q13 q14 q15 q16 q17 q18 q19 q20 q21 q22 q23;(repeat clear zq);obtain ⟨f,hf⟩:∃ f,(d || !e)=f:=⟨_,rfl⟩
       rw [hf];have HF:=hid hf;clear hf;cases f with
       | true =>
         have hne:Y0l p q=false:=by
          refine decide_eq_false (ek.out fun h=>?_);injection h with h1 h2;have h3:=HF.out;rw [<- R2.out,<- J7.out,h1,h2] at h3;simp at h3
         have HR:=hid hne;clear hne;go_wp2;go_ret;exact ⟨by rw [HR.out]; rfl,Rq.out.trans bj.out⟩
       | false =>
         have lj:J4r (p.getD k default)=J4r (q.getD k default):=by
          rw [N7.out,N7.out,j6.out,DX.out,O3.out,Oc.out];have h3:=HF.out;rw [<- R2.out,<- J7.out] at h3;simp at h3;rw [h3.1,h3.2]
         have Kk:=hid lj;clear lj;go_wp2;go_roundw
         case rel=>exact ⟨k + 1,by omega,by go_num,(fun j hj=>by
          rcases Nat.lt_or_ge j k with h | h
          . exact Z5.out j h
          . have e:j=k:=by omega
            subst e; exact Kk.out),bj.out⟩
         case measure=>simp [intOf]; omega
    . have zj:¬ (k:Int) < n:=by omega
      have rj:k=n:=by omega
      have hr:Y0l p q=true:=decide_eq_true (Y8w (by rw [HN.out,HM.out]) (by rw [HN.out,<- rj]; exact L0))
      have HR:=hid hr;clear L0 hr;go_wp2;go_ret;exact ⟨by rw [HR.out]; rfl,Gq⟩
 . have hI:((n:Int) != (m:Int))=true:=by simp; omega
   have hr:Y0l p q=false:=decide_eq_false fun h=>Aj (by have:=congrArg List.length h; simpa [HN.out,HM.out] using this)
   have HR:=hid hr;clear Aj hr;go_wp2;go_ret;exact ⟨by rw [HR.out]; rfl,Ext.refl _⟩
def J6k (s:Q0b) (p:List Rul) (i:Int):Int:=Q0n s.members i.toNat * (countB (Q0h p (Q0c s.members i.toNat)) - X1y s i.toNat)
def Y1l (s:Q0b) (p:List Rul) (k:Nat):Int:=(((Q1w s p).take k).map (J6k s p)).sum
theorem Y3l (s:Q0b) (p:List Rul) {k:Nat} (hk:k < (Q1w s p).length):Y1l s p (k + 1)=Y1l s p k + J6k s p (ix (Q1w s p) k):=by
 unfold Y1l;rw [List.take_succ_eq_append_getElem hk,List.map_append,List.sum_append,Q5g hk]; simp
theorem Z9o (s:Q0b) (p:List Rul):Y1l s p (Q1w s p).length=Z2o s p:=by unfold Y1l; rw [List.take_length]; rfl
def Y4d (s:Q0b) (p:List Rul):Int:=if Q1k s p=0 then Z2o s p else 0
theorem Z0b {s:Q0b} (i:Nat):0 <= X1y s i /\ X1y s i <= s.ships.length:=by
 unfold X1y;cases h:alone s i with
 | none=>simp
 | some b =>
   have h1:=countB_le b;have h2:=Q7k _ _ _ _ b h;simp only;omega
theorem Z9r {s:Q0b} (hS:Q0r s) (p:List Rul) {i:Int} (hi:0 <= i /\ i < s.members.length):-6000 <= J6k s p i /\ J6k s p i <= 6000:=by
 have hw:=hS.weights i.toNat (by omega)
 have hc:=X3y hS (Q0h p (Q0c s.members i.toNat)) (by rw [Q1l,(hS.shaped i.toNat (by omega)).1]; exact Nat.le_refl _)
 have ha:=Z0b (s:=s) i.toNat;have h6:=hS.tides.2;unfold J6k;obtain ⟨d,hd⟩:∃ d,countB (Q0h p (Q0c s.members i.toNat)) - X1y s i.toNat=d:=⟨_,rfl⟩;rw [hd];have Br:-6 <= d /\ d <= 6:=by omega
 have h1:Q0n s.members i.toNat * (d + 6) <= 1000 * (d + 6):=Int.mul_le_mul_of_nonneg_right hw.2 (by omega)
 have h2:0 <= Q0n s.members i.toNat * (d + 6):=Int.mul_nonneg (by omega) (by omega)
 have h3:Q0n s.members i.toNat * (6 - d) <= 1000 * (6 - d):=Int.mul_le_mul_of_nonneg_right hw.2 (by omega)
 have h4:0 <= Q0n s.members i.toNat * (6 - d):=Int.mul_nonneg (by omega) (by omega)
 rw [Int.mul_add] at h1 h2;rw [Int.mul_sub] at h3 h4
 constructor
 . omega
 . omega
theorem Z3n {s:Q0b} (hS:Q0r s) (p:List Rul):∀ k,k <= (Q1w s p).length -> -6000 * (k:Int) <= Y1l s p k /\ Y1l s p k <= 6000 * k
 | 0,_=>by simp [Y1l]
 | k + 1,h=>by
   have ih:=Z3n hS p k (by omega)
   have hx:=X0x s p (ix (Q1w s p) k) (by rw [Q5g (show k < (Q1w s p).length by omega)]; exact List.getElem_mem _)
   have:=Z9r hS p hx;rw [Y3l s p (by omega)]
   omega
theorem Q8j.bools {w:World} {x:Value} {o:Option (List Bool)} (h:Q8j w x o) (hl:∀ b,o=some b -> b.length <= 4096):Q1v w x (o.getD []):=by
 cases o with
 | none =>
   have h':x=.slice none 0 0:=h;subst h';exact X0p w
 | some b =>
   have:=hl b rfl;exact Q0q.bools h (show b.length <= 17592186043904 by omega)
theorem J1e (s:Q0b) (i:Nat):X1y s i=countB ((alone s i).getD []):=by
 unfold X1y;cases alone s i <;> rfl
theorem Y5d {n:Int} (h1:-9223372036854775808 <= n) (h2:n <= 9223372036854775807):IntKind.i64.wrap n=n:=by
 rw [IntKind.wrap_i64]; omega
theorem Z1g (w:World) (v u:Value) (s:Q0b) (p:List Rul) (hv:Q0i w v s) (hu:Q0l w u p) (hs:Q2r s) (hp:p.length <= 1000) :
    Calls prog 65 #[v,u] w fun e w'=>e=.returned (.tuple #[.int .i64 (Y4d s p),.int .i64 (Q1k s p)]) /\ Ext w w':=by
 obtain ⟨a,b,rfl,h2⟩:=hv;obtain ⟨rv,rfl,hr⟩:=hu;obtain ⟨A,Tq,rfl,-,-,-⟩:=h2.ships.opened;obtain ⟨B,Vq,rfl,-,-,-⟩:=h2.members.opened;obtain ⟨R,Fq,rfl,-,-,-⟩:=hr.opened;have H2:=hid h2;have HR:=hid hr;have HS:=hid hs;clear h2 hr hs;go_enter func65,ntmps65;go_upto_region 1 with fail;change Code.wp _ _ _ _ ((w.alloc (.cells #[.int .i64 s.limit,.slice A s.ships.length Tq,.slice B s.members.length Vq] 34)).alloc (.cells #[.slice R p.length Fq] 38));obtain ⟨W,Mq,k0,k1,Rq,eW⟩:=Q4p w 34 #[.int .i64 s.limit,.slice A s.ships.length Tq,.slice B s.members.length Vq] 38 #[.slice R p.length Fq];rw [Mq];clear Mq;have K0:=hid k0;have K1:=hid k1;have Pz:Hid (∀ W',Ext W W' -> Q0i W' (.agg #[.int .i64 s.limit,.slice A s.ships.length Tq,.slice B s.members.length Vq]) s):=hid (fun W' hW=>⟨_,_,rfl,H2.out.ext (Rq.out.trans hW)⟩);have Wg:Hid (∀ W',Ext W W' -> Q0l W' (.agg #[.slice R p.length Fq]) p):=hid (fun W' hW=>⟨_,rfl,HR.out.ext (Rq.out.trans hW)⟩);have G4:=hid (X3z W _ _ s p (Pz.out W (Ext.refl _)) (Wg.out W (Ext.refl _)) HS.out hp);have c0:=(k0).cell 0;have c1:=(k0).cell 1;have c2:=(k0).cell 2;simp only [Go.Tw.gA,Go.Tw.gB,Go.Tw.gC] at c0 c1 c2;have d0:=(k1).cell 0;simp only [Go.Tw.gA,Go.Tw.gB] at d0;clear k0 k1
 by_cases he:Q1k s p=0
 . obtain ⟨Xw,zh⟩:=Q4z he
   have HV:=hid Xw;have Ko:=hid zh;have Z7:Hid (Z1p s p=Q1w s p):=hid (if_pos he);have HF:Hid (Y4d s p=Z2o s p):=hid (if_pos he);have Vx:=hid he;rw [Z7.out,he] at G4;clear he Xw zh;go_wp2_with (go_at_call 33; refine G4.out.mono ?_; rintro e w5 ⟨x,rfl,qw,yq⟩; replace c0:=yq.cell c0; replace c1:=yq.cell c1; replace c2:=yq.cell c2; replace d0:=yq.cell d0; refine halted ?_);obtain ⟨Xk,Q7,rfl,-,-,L2⟩:=qw.opened;have lk:=hid L2;have l8:=kept_len s p;have Mc:=hid (Q7q w5 _ _ s p (Pz.out w5 yq) (Wg.out w5 yq) HV.out Ko.out);have vq:=hid yq;clear L2 qw yq;unfold Q1o;go_wp2_with (go_at_call 109; refine Mc.out.mono ?_; rintro e w6 ⟨y,rfl,G5,Mj⟩; refine halted ?_);obtain ⟨U,py,rfl,-,-,Ag⟩:=G5.opened;rw [Q3c] at Ag ⊢;have m9:=hid Ag;have bj:=hid (vq.out.trans Mj);have Lc:=hid Mj;obtain ⟨L,hL⟩:∃ L,Q1w s p=L:=⟨_,rfl⟩;have F2:=hid hL;rw [hL] at l8 lk ⊢;clear Ag G5 Mj hL c0 c1 c2 d0;unfold Q1o;go_wp2
   go_loopw [8,27] (fun sv iv wr=>∃ (k:Nat) (m:Int),k <= L.length /\ iv=.int .i64 k /\ sv=.int .i64 m /\ m=Y1l s p k /\ Ext w6 wr) (fun _ iv _=>L.length - (intOf iv).toNat)
   case atStart=>exact ⟨0,0,Nat.zero_le _,rfl,rfl,by simp [Y1l],Ext.refl _⟩
   case round =>
    obtain ⟨k,m,hk,rfl,rfl,hm,Gq⟩:=hrel;have E6:=hid hm;have Pj:=hid Gq;clear hm
    by_cases Uq:k < L.length
    . obtain ⟨bk,ok,rfl,i9⟩:=lk.out k Uq
      replace i9:=(Lc.out.trans Gq).cell i9;have Sy:0 <= ix L k /\ ix L k < s.members.length:=by
       have:=X0x s p;rw [F2.out] at this;exact this _ (by rw [Q5g Uq]; exact List.getElem_mem Uq)
      have Q2:=Y3l s p (k:=k) (by rw [F2.out]; exact Uq)
      have Sk:=Z3n HV.out p (k + 1) (by rw [F2.out]; exact Uq)
      have Uy:=Z9r HV.out p Sy;rw [F2.out] at Q2;obtain ⟨j,hj⟩:∃ j:Nat,ix L k=(j:Int):=⟨(ix L k).toNat,by omega⟩
      rw [hj] at i9 Sy Q2 Uy;have Qj:j < s.members.length:=by omega
      obtain ⟨bm,off,Sq,Jq,Cq,X,Y,Z,rq⟩:=Q3e (H2.out.members.ext (Rq.out.trans (bj.out.trans Gq))) Qj;have hA:=rq.addr;subst hA;have e0:=rq.e0;have e1:=rq.e1;have e2:=rq.e2;have e3:=rq.e3;have e4:=rq.e4;have Jz:=hid (fun W' hW=>rq.mem (W:=W') hW);obtain ⟨bu,ou,xk,rfl,-,qv,xj⟩:=m9.out j Qj;rw [Q6b p Qj] at xj;have hT:=(HV.out.shaped j Qj).1;have h6:=HV.out.tides;have Vg:=hid (fun (W:World) (u:Value) (hu:X2i W u (Q1g s j))=>Y4a W u (Q1g s j) s.limit s.ships.length hu hT (by omega) h6.1 (X1t HV.out Qj (Nat.le_refl _)))
      have Wb:Hid ((Q1g s j).Q4s s.limit s.ships.length (2 ^ s.ships.length)=alone s j):=hid rfl;rw [Wb.out] at Vg;have R0:∀ b,alone s j=some b -> b.length <= 4096:=fun b hb=>by have:=Q7k _ _ _ _ b hb; omega
      have Kc:=hid (J1e s j);have U9:=X3y HV.out (Q0h p (Q0c s.members j)) (by rw [Q1l,hT]; exact Nat.le_refl _)
      have yh:=Z0b (s:=s) j;have O5:J6k s p (j:Int)=Q0n s.members j * (countB (Q0h p (Q0c s.members j)) - X1y s j):=by unfold J6k; rw [Int.toNat_natCast]
      rw [O5] at Q2 Uy;obtain ⟨o,ho⟩:∃ o,alone s j=o:=⟨_,rfl⟩;rw [ho] at Vg Kc R0;have iz:=hid R0;obtain ⟨cl,hcl⟩:∃ x,Q0h p (Q0c s.members j)=x:=⟨_,rfl⟩;rw [hcl] at xj U9 Q2 Uy;obtain ⟨cn,Jc⟩:∃ x,countB cl=x:=⟨_,rfl⟩;rw [Jc] at U9 Q2 Uy;have Jo:=hid Jc;obtain ⟨an,vh⟩:∃ x,X1y s j=x:=⟨_,rfl⟩;rw [vh] at yh Q2 Kc Uy;obtain ⟨nm,Aj⟩:∃ x,Q1s s.members j=x:=⟨_,rfl⟩;obtain ⟨wt,lq⟩:∃ x,Q0n s.members j=x:=⟨_,rfl⟩;obtain ⟨lc,vj⟩:∃ x,(Q0c s.members j).length=x:=⟨_,rfl⟩;obtain ⟨lo,Sx⟩:∃ x,(Q1c s.members j).length=x:=⟨_,rfl⟩;obtain ⟨li,mj⟩:∃ x,(Q1f s.members j).length=x:=⟨_,rfl⟩;rw [Aj] at e0 Jz;rw [lq] at e1 Jz Q2 Uy;rw [vj] at e2 Jz;rw [Sx] at e3 Jz;rw [mj] at e4 Jz;obtain ⟨Uk,OV,rfl,-,-,-⟩:=xj.opened;have kJ:=hid qv;have ly:=hid xj;have yQ:IntKind.i64.wrap (cn - an)=cn - an:=Y5d (by omega) (by omega)
      obtain ⟨df,rY⟩:∃ x,cn - an=x:=⟨_,rfl⟩;rw [rY] at yQ Q2 Uy;obtain ⟨pr,TX⟩:∃ x,wt * df=x:=⟨_,rfl⟩;rw [TX] at Q2 Uy;have NV:IntKind.i64.wrap pr=pr:=Y5d (by omega) (by omega)
      rw [<- E6.out] at Q2;rw [Q2] at Sk;have o8:IntKind.i64.wrap (m + pr)=m + pr:=Y5d (by have:=l8; have:=HV.out.some.2; omega) (by have:=l8; have:=HV.out.some.2; omega)
      have oW:=hid Q2;have LV:=hid rY;have xK:=hid TX;have M8:(j:Int) < s.members.length:=by omega
      have zj:(k:Int) < L.length:=by omega
      have qG:k < 4096:=by have:=l8; have:=HV.out.some.2; omega
      have Bq:=Ext.box wr (.cells #[.string nm,.int .i64 wt,.slice X lc Sq,.slice Y lo Jq,.slice Z li Cq] 69);have K3:=Blk.made wr 69 #[.string nm,.int .i64 wt,.slice X lc Sq,.slice Y lo Jq,.slice Z li Cq];have kk:=K0.out.ext (bj.out.trans Gq);have c0:=(kk).cell 0;have c1:=(kk).cell 1;have c2:=(kk).cell 2;simp only [Go.Tw.gA,Go.Tw.gB,Go.Tw.gC] at c0 c1 c2;have jq:=hid Bq;clear rq Sy hj Qj hT h6 R0 U9 yh O5 ho hcl Jc vh Aj lq vj Sx mj qv xj rY TX Q2 Sk Uy Bq kk Gq
      go_light
      go_wp2;obtain ⟨W5,Q4⟩:∃ X',wr.alloc (.cells #[.string nm,.int .i64 wt,.slice X lc Sq,.slice Y lo Jq,.slice Z li Cq] 69)=X':=⟨_,rfl⟩;obtain ⟨g,hg⟩:∃ x,wr.heap.size=x:=⟨_,rfl⟩;rw [Q4] at jq K3 ⊢;rw [hg] at K3 ⊢;have KR:=hid K3;have Xq:=(Ext.refl W5).drew;clear Q4 K3 e0 e1 e2 e3 e4 hg i9 c0 c1 c2;refine Flow.Q1h [.p,.p,.w,.p,.p,.p,.w,.w,.w,.p,.w,.w,.w,.p,.p,.p,.p] [0,1,2,3,4,5,6,7,8,9,10,11,12,13,14,15,16] [[],[],[1],[],[],[3,4],[5],[6],[],[],[9],[7,8,10],[11],[7,12],[2,13],[0,14],[0,1,2,3,4,5,6,7,8,9,10,11,12,13,14,15]]
       [.c 0 (.int .i64 m),.c 1 (.pointer (some ⟨g,1,none⟩)),.c 2 (.int .i64 wt),.c 3 (.slice (some ⟨bu,ou,none⟩) s.members.length py),.c 4 (.int .i64 (j:Int)),.c 5 (.pointer (some ⟨bu,ou + j,none⟩)),.c 6 (.slice Uk cl.length OV),.c 7 (.int .i64 cn),.c 8 (.agg #[.string nm,.int .i64 wt,.slice X lc Sq,.slice Y lo Jq,.slice Z li Cq]),.c 9 (.pointer (some ⟨w.heap.size,0,none⟩)),.c 10 (.int .i64 s.limit),⟨fun v wz=>(fun v w'=>Q8j w' (v 11) o) v wz,by intro v a b hx h; exact Q8j.ext h hx⟩,.c 12 (.int .i64 an),.c 13 (.int .i64 df),.c 14 (.int .i64 pr),.c 15 (.int .i64 (m + pr)),.c 16 (.int .i64 (m + pr))]
       (by kernel_rfl) rfl (by kernel_rfl) ⟨?g0,?g1,?g2,?g3,?g4,?g5,?g6,?g7,?g8,?g9,?g10,?g11,?g12,?g13,?g14,?g15,?g16,trivial⟩ ?post
      case g0 | g1 | g3 | g4 | g9=>
       intro v w1 hx;intro bb hbb;subst hbb;refine ⟨_,fun w=>?_,rfl⟩;go_simp
      case g2 | g6 | g10=>
       intro v w1 hx;(repeat intro (zq:v _=_));intro bb hbb;subst hbb;have n0:w1.cell? ⟨g,1,none⟩=some (.int .i64 wt):=(KR.out.ext (Xq.trans hx)).cell 1;have n1:w1.cell? ⟨bu,ou + j,none⟩=some (.slice Uk cl.length OV):=(Pj.out.trans (jq.out.trans (Xq.trans hx))).cell kJ.out;have n2:w1.cell? ⟨w.heap.size,0,none⟩=some (.int .i64 s.limit):=(K0.out.ext (bj.out.trans (Pj.out.trans (jq.out.trans (Xq.trans hx))))).cell 0;intro K hK;go_simp;exact hK _ _ (Ext.refl _) rfl
      case g5 | g15=>
       intro v w1 hx;(repeat intro (zq:v _=_));intro bb hbb;subst hbb;refine ⟨_,fun w=>?_,rfl⟩;go_simp
      case g7=>
       intro v w1 hx;(repeat intro (zq:v _=_));intro bb hbb;subst hbb;intro K hK;go_simp;refine Q0e (Q6z w1 _ cl (ly.out.ext (Pj.out.trans (jq.out.trans (Xq.trans hx))))) ?_;rw [Jo.out];rintro e w2 ⟨rfl,Nq⟩;exact ⟨_,rfl,hK _ _ Nq rfl⟩
      case g8=>
       intro v w1 hx;intro bb hbb;intro K hK;have o1:bb.eval (.tmp 12)=.pointer (some ⟨g,0,none⟩):=fze09
       exact Q0k (.tmp 12) _ rfl Z6e Y3r o1 (KR.out.ext (Xq.trans hx)) rfl (hK _ _ (Ext.refl _) rfl)
      case g11=>
       intro v w1 hx;(repeat intro (zq:v _=_));intro bb hbb;subst hbb;intro K hK;go_simp;refine Q0e (Vg.out w1 _ (Jz.out w1 (jq.out.trans (Xq.trans hx)))) ?_;rintro e w2 ⟨x,rfl,h1,Nq⟩;exact ⟨_,rfl,hK _ _ Nq h1⟩
      case g12=>
       intro v w1 hx (q11:(fun v w'=>Q8j w' (v 11) o) v w1);intro bb hbb;subst hbb;intro K hK;go_simp;refine Q0e (Q6z w1 _ (o.getD []) (Q8j.bools q11 iz.out)) ?_;rw [<- Kc.out];rintro e w2 ⟨rfl,Nq⟩;exact ⟨_,rfl,hK _ _ Nq rfl⟩
      case g13=>
       intro v w1 hx;(repeat intro (zq:v _=_));intro bb hbb;subst hbb;have rY:=LV.out;refine ⟨_,fun w=>?_,rfl⟩;go_simp
      case g14=>
       intro v w1 hx;(repeat intro (zq:v _=_));intro bb hbb;subst hbb;have TX:=xK.out;refine ⟨_,fun w=>?_,rfl⟩;go_simp
      case g16=>
       intro v w1 hx (q0:v 0=_) (q1:v 1=_) (q2:v 2=_) (q3:v 3=_) (q4:v 4=_) (q5:v 5=_) (q6:v 6=_) (q7:v 7=_) (q8:v 8=_) (q9:v 9=_) (q10:v 10=_) _ (q12:v 12=_) (q13:v 13=_) (q14:v 14=_) (q15:v 15=_);intro bb hbb;subst hbb;refine ⟨_,fun w=>?_,rfl⟩;go_simp
      case post =>
       intro v w1 hx;(iterate 11 intro (zq:v _=_));intro (q11:(fun v w'=>Q8j w' (v 11) o) v w1);(iterate 5 intro (zq:v _=_));simp only [Flow.All,Flow.acts,Act.put];go_simp;have kx:=hid (Pj.out.trans (jq.out.trans (Xq.trans hx)));clear hx Xq q11;(repeat clear zq);go_wp2;go_roundw
       case rel=>exact ⟨k + 1,m + pr,by omega,by go_num,rfl,oW.out.symm,kx.out⟩
       case measure=>simp [intOf]; omega
    . have lj:k=L.length:=by omega
      subst lj;go_wp2;go_ret2;exact ⟨by rw [HF.out,Vx.out,<- Z9o,F2.out,<- E6.out]; rfl,Rq.out.trans (bj.out.trans Pj.out)⟩
 . have HF:Hid (Y4d s p=0):=hid (if_neg he)
   have hne:(Q1k s p != 0)=true:=by simp [he]
   obtain ⟨E,hE⟩:∃ E,Q1k s p=E:=⟨_,rfl⟩;have Vx:=hid hE;rw [hE] at hne G4;clear he hE;go_wp2_with (go_at_call 33; refine G4.out.mono ?_; rintro e w5 ⟨x,rfl,qw,yq⟩; have vq:=hid yq; clear qw);go_ret2;exact ⟨by rw [HF.out,Vx.out]; rfl,Rq.out.trans vq.out⟩
def X2l (m:Mem) (lim:Int) (t j:Nat):Bool:=(List.range j).any fun n=>m.keeps lim (Q6n n t)
theorem Y9a (m:Mem) (lim:Int) (t j:Nat):X2l m lim t (j + 1)=(X2l m lim t j || m.keeps lim (Q6n j t)):=by
 unfold X2l; rw [List.range_succ,List.any_append]; simp
def Q9x (s:Q0b) (n:Int):Int:=if Q5r s n=0 then (if (Q5u s n.toNat).isSome then 0 else 7) else Q5r s n
def Q9u (s:Q0b) (n:Int):Int:=if Q5r s n=0 then (((Q5u s n.toNat).getD 0:Nat):Int) else 0
theorem Z7z {s:Q0b} {i k:Nat} (hk:k < s.ships.length) (h0:∀ t,t < k -> (Q1g s i).Q9w s.limit (t + 1)=true) (h1:(Q1g s i).Q9w s.limit (k + 1)=false):Q5u s i=some k:=by
 unfold Q5u;rw [List.find?_eq_some_iff_getElem];refine ⟨by simp [h1],k,by simpa using hk,by simp,fun j hj=>?_⟩
 simp [h0 j hj]
theorem Z4n {s:Q0b} {i:Nat} (h0:∀ t,t < s.ships.length -> (Q1g s i).Q9w s.limit (t + 1)=true):Q5u s i=none:=by
 unfold Q5u;rw [List.find?_eq_none];intro t ht;simp [h0 t (List.mem_range.1 ht)]
theorem Y0j (w:World) (v:Value) (s:Q0b) (n:Int) (hv:Q0i w v s) (hs:Q2r s) :
    Calls prog 41 #[v,.int .i64 n] w fun e w'=>e=.returned (.tuple #[.int .i64 (Q9u s n),.int .i64 (Q9x s n)]) /\ Ext w w':=by
 obtain ⟨a,b,rfl,h2⟩:=hv;obtain ⟨A,Tq,rfl,-,-,-⟩:=h2.ships.opened;obtain ⟨B,Vq,rfl,-,-,-⟩:=h2.members.opened;have H2:=hid h2;have HS:=hid hs;have Mw:Hid (∀ (W:World) (u:Value),Q0g W u [s.err,Q0s (Q7f s n) 10] -> Calls prog 96 #[u] W fun e W'=>e=.returned (.int .i64 (Q5r s n)) /\ W=W'):=hid (fun W u h=>first_any W u _ h);clear h2 hs;refine (callsIn_wide (n:=9)).1 ?_;refine callsIn_of_wp_marks func41 rfl trivial ?_ rfl;simp only [ntmps41,List.size_toArray,List.length_cons,List.length_nil,Nat.reduceAdd,Nat.reduceSub,Array.replicate_succ,Array.replicate_zero,List.push_toArray,List.append_toArray,List.nil_append,List.cons_append]
 gi_wp2_with fail
 obtain ⟨W,Mq,k0,k1,Rq,eW⟩:=Q4p w 34 #[.int .i64 s.limit,.slice A s.ships.length Tq,.slice B s.members.length Vq] 3 #[.int .i64 n];rw [Mq];clear Mq;obtain ⟨gs,Rj⟩:∃ x,w.heap.size=x:=⟨_,rfl⟩;have rx:=hid Rj;rw [Rj] at k0 k1 eW ⊢;have K0:=hid k0;have K1:=hid k1;clear k0 k1 Rj;have Xq:=(Ext.refl W).drew;have Pz:Hid (∀ W',Ext W W' -> Q0i W' (.agg #[.int .i64 s.limit,.slice A s.ships.length Tq,.slice B s.members.length Vq]) s):=hid (fun W' hW=>⟨_,_,rfl,H2.out.ext (Rq.out.trans hW)⟩);refine Z5j ?_
 gi_wp2_with fail
 refine wpIn_wide.2 ?_;refine Flow.Q1h [.w,.w,.w,.w,.w,.w,.w,.p] [0,1,2,3,4,5,6,7] [[],[0],[],[],[1,2,3],[1,4],[4,5],[0,1,2,3,4,5,6]]
  [.c 0 (.agg #[.int .i64 s.limit,.slice A s.ships.length Tq,.slice B s.members.length Vq]),.c 1 (.int .i64 s.err),.c 2 (.agg #[.int .i64 s.limit,.slice A s.ships.length Tq,.slice B s.members.length Vq]),.c 3 (.int .i64 n),.c 4 (.int .i64 (Q0s (Q7f s n) 10)),⟨fun v wz=>(fun v w'=>Q0g w' (v 5) [s.err,Q0s (Q7f s n) 10]) v wz,by intro v a b hx h; exact Q0g.ext h hx⟩,.c 6 (.int .i64 (Q5r s n)),.c 7 (.int .i64 (Q5r s n))]
  (by kernel_rfl) rfl (by kernel_rfl) ⟨?g0,?g1,?g2,?g3,?g4,?g5,?g6,?g7,trivial⟩ ?post
 case g0 | g2=>
  intro v w1 hx;intro bb hbb;intro K hK;have o1:bb.eval (.tmp 2)=.pointer (some ⟨gs,0,none⟩):=fze09
  exact Q0k (.tmp 2) _ rfl X7u Q8v o1 (K0.out.ext (Xq.trans hx)) rfl (hK _ _ (Ext.refl _) rfl)
 case g1=>
  intro v w1 hx;(repeat intro (zq:v _=_));intro bb hbb;subst hbb;intro K hK;go_simp;refine Q0e (Q2k w1 _ s (Pz.out w1 (Xq.trans hx)) HS.out) ?_;rintro e w2 ⟨rfl,Nq⟩;exact ⟨_,rfl,hK _ _ Nq rfl⟩
 case g3=>
  intro v w1 hx;intro bb hbb;subst hbb;have n0:w1.cell? ⟨gs + 1,0,none⟩=some (.int .i64 n):=(K1.out.ext (Xq.trans hx)).cell 0;intro K hK;go_simp;exact hK _ _ (Ext.refl _) rfl
 case g4=>
  intro v w1 hx;(repeat intro (zq:v _=_));intro bb hbb;subst hbb;intro K hK;go_simp;refine Q0e (Q4h w1 _ s n (Pz.out w1 (Xq.trans hx))) ?_;rintro e w2 ⟨rfl,Nq⟩;exact ⟨_,rfl,hK _ _ Nq rfl⟩
 case g5=>
  intro v w1 hx;(repeat intro (zq:v _=_));intro bb hbb;subst hbb;intro K hK;go_simp;exact hK _ _ (Ext.box _ _) (Q3d (l:=[s.err,Q0s (Q7f s n) 10]) (by simp))
 case g6=>
  intro v w1 hx (q4:v 4=_) (q5:(fun v w'=>Q0g w' (v 5) [s.err,Q0s (Q7f s n) 10]) v w1);intro bb hbb;subst hbb;intro K hK;go_simp;refine Q0e (Mw.out w1 _ q5) ?_;rintro e w2 ⟨rfl,rfl⟩;exact ⟨_,rfl,hK _ _ (Ext.refl _) rfl⟩
 case g7=>
  intro v w1 hx (q0:v 0=_) (q1:v 1=_) (q2:v 2=_) (q3:v 3=_) (q4:v 4=_) _ (q6:v 6=_);intro bb hbb;subst hbb;refine ⟨_,fun w=>?_,rfl⟩;go_simp
 case post =>
  intro v w1 hx (q0:v 0=_) (q1:v 1=_) (q2:v 2=_) (q3:v 3=_) (q4:v 4=_) (q5:(fun v w'=>Q0g w' (v 5) [s.err,Q0s (Q7f s n) 10]) v w1) (q6:v 6=_) (q7:v 7=_);simp only [Flow.All,Flow.acts,Act.put];go_simp;have vq:=hid (Rq.out.trans (Xq.trans hx));have b4:=hid (K0.out.ext (Xq.trans hx));have Fo:=hid (K1.out.ext (Xq.trans hx));have Eo:Hid (gs + 1 + 1 <= w1.heap.size):=hid (by have:=(Xq.trans hx).size; omega)
  obtain ⟨w5,rfl⟩:∃ X,X=w1:=⟨_,rfl⟩;obtain ⟨y5,KV⟩:∃ z,v 5=z:=⟨_,rfl⟩;rw [KV];clear hx Xq KV eW q0 q1 q2 q3 q4 q5 q6 q7
  by_cases he:Q5r s n=0
  . obtain ⟨Xw,Q5,Ty⟩:=X5j he
    have hne:(Q5r s n != 0)=false:=by simp [he]
    obtain ⟨i,rfl⟩:∃ i:Nat,n=(i:Int):=⟨n.toNat,by omega⟩
    have kz:i < s.members.length:=by omega
    have m7:Hid (Q9u s (i:Int)=(((Q5u s i).getD 0:Nat):Int)):=hid (by unfold Q9u; rw [if_pos he,Int.toNat_natCast])
    have uh:Hid (Q9x s (i:Int)=if (Q5u s i).isSome then 0 else 7):=hid (by unfold Q9x; rw [if_pos he,Int.toNat_natCast])
    obtain ⟨E,hE⟩:∃ E,Q5r s (i:Int)=E:=⟨_,rfl⟩;rw [hE] at hne ⊢;obtain ⟨bm,off,Sq,Jq,Cq,X,Y,Z,rq⟩:=Q3e (H2.out.members.ext vq.out) kz;have hA:=rq.addr;subst hA;have Nz:=hid rq.e0;have HE1':=hid rq.e1;have fy:=hid rq.e2;have G6:=hid rq.e3;have r8:=hid rq.e4;have Jz:=hid (fun W' hW=>rq.mem (W:=W') hW);have h6:=Xw.tides;have W4:=hid (fun t (ht:t <= s.ships.length)=>X1t Xw kz ht);obtain ⟨m,hm⟩:∃ m,Q1g s i=m:=⟨_,rfl⟩;have qY:=hid (fun k (hk:k < s.ships.length) h0 h1=>Z7z (s:=s) (i:=i) (k:=k) hk h0 h1);have pY:=hid (fun h0=>Z4n (s:=s) (i:=i) h0);rw [hm] at Jz W4 qY pY;obtain ⟨nm,Aj⟩:∃ x,Q1s s.members i=x:=⟨_,rfl⟩;obtain ⟨wt,lq⟩:∃ x,Q0n s.members i=x:=⟨_,rfl⟩;obtain ⟨lc,vj⟩:∃ x,(Q0c s.members i).length=x:=⟨_,rfl⟩;obtain ⟨lo,Sx⟩:∃ x,(Q1c s.members i).length=x:=⟨_,rfl⟩;obtain ⟨li,mj⟩:∃ x,(Q1f s.members i).length=x:=⟨_,rfl⟩;rw [Aj] at Nz Jz;rw [lq] at HE1' Jz;rw [vj] at fy Jz;rw [Sx] at G6 Jz;rw [mj] at r8 Jz;have V0:(i:Int) < s.members.length:=by omega
    have qz:Hid (0 < s.ships.length /\ s.ships.length <= 6):=hid h6;obtain ⟨T,hT⟩:∃ T,s.ships.length=T:=⟨_,rfl⟩;rw [hT] at b4 W4 qY pY qz ⊢;obtain ⟨lim,Mz⟩:∃ l,s.limit=l:=⟨_,rfl⟩;rw [Mz] at b4 qY pY ⊢;have Ek:Hid (i < s.members.length):=hid kz;obtain ⟨M,hM⟩:∃ M,s.members.length=M:=⟨_,rfl⟩;rw [hM] at b4 V0 Ek ⊢;have c1:w5.cell? ⟨gs,1,none⟩=some (.slice A T Tq):=b4.out.cell 1;clear he hE Xw Q5 Ty rq hm Aj lq vj Sx mj h6 hT Mz hM kz Pz H2 HS Mw
    gi_wp2_with fail
    refine wpIn_label ?_
    gi_wp2_with fail
    refine Y0e 25 T 0 [9,10,25,26,27,28,29,30,44,45,47] [] (fun k a Ds W=>a.tmps.getD 25 undef=.int .i64 k /\ k <= T /\ (∀ t,t < k -> m.Q9w lim (t + 1)=true) /\ Marked W Ds /\ (∀ D,D ∈ Ds -> w5.heap.size <= D) /\ Ext w5 W) (fun k a Ds w h=>by rw [h.1]; rfl) rfl (by kernel_rfl) ⟨rfl,Nat.zero_le _,fun t h=>absurd h (Nat.not_lt_zero _),Marked.nil _,(fun D h=>absurd h List.not_mem_nil),Ext.refl _⟩ ?round
    rintro k u Ds wr ⟨JV,hk,G0,lW,Y5,Gq⟩ K hK;simp only [X6m,List.foldl_cons,List.foldl_nil,List.setIfInBounds_toArray,List.set_cons_succ,List.set_cons_zero] at JV ⊢;replace JV:u 25=.int .i64 k:=JV;rw [JV];have CX:=hid G0;have oY:=hid lW;have aJ:=hid Y5;have Pj:=hid Gq;have Oa:=hid hK;clear JV G0 lW Y5 c1 hK
    by_cases Uq:k < T
    . have zj:(k:Int) < T:=by omega
      have Do:=qz.out;have Q1:IntKind.i64.wrap ((k:Int) + 1)=((k + 1:Nat):Int):=by rw [Q2j _ (by omega) (by omega)]; omega
      have Gc:w5.heap.size <= wr.heap.size:=Gq.size;clear Gq
      gi_wp2_with (refine ⟨trivial,?_⟩; gi_at_call 112; refine halted ?_)
      unfold Q1o;clear Rq W K0 K1;obtain ⟨W,Mq,k0,Rq,eW⟩:=Q2q wr 4 #[.bool false];rw [Mq];clear Mq;have e1:((k:Int) + 1)=((k + 1:Nat):Int):=by omega
      rw [e1];refine (callsIn_wide.2 (Y5t W ((k + 1:Nat):Int))).mono ?_;rintro e w' ⟨rfl,S0,SQ,Ry⟩;rw [eW] at S0 SQ ⊢;replace k0:=k0.ext Ry;have HXW':=hid (Rq.out.trans Ry);obtain ⟨gb,xw⟩:∃ x,wr.heap.size=x:=⟨_,rfl⟩;have t8:=hid xw;rw [xw] at k0 S0 SQ ⊢;obtain ⟨tp,Fc⟩:∃ t,k + 1=t:=⟨_,rfl⟩;have th:=hid Fc;rw [Fc] at S0 ⊢;have jJ:tp <= 8:=by omega
      have Ar:X2l m lim tp 0=false:=rfl;clear Ry xw Rq eW e1 Fc Q1
      gi_wp2_with fail
      refine X2o (n:=9) rfl (by omega) (gf:=170) (lb:=#[.pointer (some ⟨gb + 1,0,none⟩)]) rfl trivial (enters_of func170 (by kernel_rfl) rfl)
       (X6a _ (gb + 1) tp w' jJ S0) rfl (fun h1 h2=>Eq.trans h2 h1) (fun h=>h.same (by omega)) (fun h ho=>h.own ho)
       (fun j W=>Blk W gb 4 #[.bool (X2l m lim tp j)] /\ Below gb w' W /\ Marked W Ds)
       (fun j A B ⟨h1,h2,h3⟩ hx=>⟨h1.ext hx,Below.trans h2 (hx.mono (by have:=h1.lt; omega)),h3.ext hx⟩)
       (fun h ⟨h1,h2,h3⟩=>⟨h.blk h1,Below.trans h2 (h.below (by omega)),h3.turns (fun D hD=>by have:=oY.out.lt hD; have:=t8.out; omega) h⟩)
       ⟨k0,Below.refl _ _,oY.out.ext HXW'.out⟩ ?frm ?assign ?body ?done
      case assign =>
       intro l x W K hK
       gi_wp2
       exact hK
      case done =>
       rintro D W hD ⟨hb,hB,B5⟩ GV;have oq:=HXW'.out.size;have Gx:Ext w W:=vq.out.trans (Pj.out.trans (Below.trans HXW'.out (hB.mono (by have:=t8.out; omega))))
       have yq:Ext w5 W:=Pj.out.trans (Below.trans HXW'.out (hB.mono (by have:=t8.out; omega)))
       have r5:Marked W (D :: Ds):=B5.cons GV fun E hE=>by have:=oY.out.lt hE; omega
       have m5:∀ E,E ∈ D :: Ds -> w5.heap.size <= E:=fun E hE=>by
        rcases List.mem_cons.1 hE with rfl | hE
        . omega
        . exact aJ.out E hE
       have FY:X2l m lim tp (2 ^ tp)=m.Q9w lim (k + 1):=by rw [<- th.out]; rfl
       rw [FY] at hb;have Ec:=hid Gx;have jg:=hid yq;have l7:=hid r5;have j7:=hid m5;clear Gx yq r5 m5 FY B5 GV oq hB;have Wq:=hb.cell 0;cases G0:m.Q9w lim (k + 1) with
       | false =>
         rw [G0] at Wq;have Dc:Q5u s i=some k:=qY.out k Uq CX.out G0;clear G0 hb
         gi_wp2
         change LeavesInM Fence.wide 9 prog Tryz.f41 _ _ (marks (D :: Ds)) _ _;refine Q6f (n0:=w.heap.size) (fun W=>Ext w W) (fun A B h ht=>Below.trans h (ht.below (Nat.le_refl _))) ?_ (D :: Ds) _ l7.out (fun E h=>Nat.le_trans vq.out.size (j7.out E h)) Ec.out;intro W hW;exact ⟨_,results_tmp2 rfl _ _ _,by rw [m7.out,uh.out,Dc]; rfl,hW⟩
       | true =>
         rw [G0] at Wq;have Cc:=hid (fun t (ht:t < k + 1)=>by
          rcases Nat.lt_or_ge t k with h | h
          . exact CX.out t h
          . have e:t=k:=by omega
            subst e; exact G0:∀ t,t < k + 1 -> m.Q9w lim (t + 1)=true)
         clear G0 hb
         gi_wp2
         exact Oa.out _ _ (D :: Ds) Uq (by kernel_rfl) rfl ⟨rfl,Uq,Cc.out,l7.out,j7.out,jg.out⟩
      case body =>
       rintro l j v W hj ⟨hb,hB,B5⟩ hv;have oq:=HXW'.out.size;have l5:Ext w5 W:=Pj.out.trans (Below.trans HXW'.out (hB.mono (by have:=t8.out; omega)))
       have Yj:gs + 1 + 1 <= gb:=by have:=Eo.out; have:=Pj.out.size; have:=t8.out; omega
       have Fx:=hid (b4.out.ext l5);have vz:=hid (Fo.out.ext l5);have jg:=hid l5;have ik:=hid hb;have Q8:=hid B5;have V4:=hid hB;have yk:=X3m j tp;have tj:=Y9a m lim tp j;obtain ⟨cl,hcl⟩:∃ x,Q6n j tp=x:=⟨_,rfl⟩;rw [hcl] at hv yk tj;have gJ:=hid hv;obtain ⟨Av,cv,rfl,-⟩:=hv.shape;have Kk:=hid (fun (w1:World) (hx:Ext W w1)=>X0v w1 _ _ m lim cl (Jz.out w1 (l5.trans hx)) ((gJ.out.bools (by omega)).ext hx) (by omega) (by rw [yk]; exact W4.out tp (by have:=th.out; omega)))
       obtain ⟨kp,Oj⟩:∃ x,m.keeps lim cl=x:=⟨_,rfl⟩;rw [Oj] at tj Kk;obtain ⟨st,FV⟩:∃ x,X2l m lim tp j=x:=⟨_,rfl⟩;rw [FV] at tj ik;have J1:=hid tj;have UJ:Hid (gb + 1 + 1 <= W.heap.size):=hid (by have:=hB.size; omega)
       have Xq:=(Ext.refl W).drew;have Co:gb < W.heap.size:=by have:=UJ.out; omega
       have ZY:=hid Yj;clear hv hcl Oj FV tj hb B5 oq l5 yk hB;cases st with
       | true =>
         gi_wp2
         refine Flow.Z3w [.w,.p,.p,.w,.w,.p,.w,.p,.w,.p,.w,.p,.last] [0,1,2,3,4,5,6,7,8,9,10,11,12] [[],[0],[0,1],[0,1,2],[0,1],[0,1,2,3,4],[0,1,2,3,4,5],[0,1],[0,1,7],[0,1],[0,1,2,3,4,5,6,7,8,9],[0,1,2,3,4,5,6,7,8,9,10],[0,1,2,3,4,5,6,7,8,9,10,11]] [12]
          [.c 0 (.bool true),.c 1 (.bool true),.c 2 (undef),.c 3 (undef),.c 4 (undef),.c 5 (undef),.c 6 (undef),.c 7 (undef),.c 8 (undef),.c 9 (undef),.c 10 (undef),.c 11 (.bool true),.none]
          [fun v w1 w'=>w'=w1.setCell ⟨gb,0,none⟩ (.bool true)] (by kernel_rfl) (by kernel_rfl) rfl (by kernel_rfl) ⟨?g0,?g1,?g2,?g3,?g4,?g5,?g6,?g7,?g8,?g9,?g10,?g11,?g12,trivial⟩ ?post
         case g0=>
          intro v w1 hx;intro bb hbb;subst hbb;have n0:w1.cell? ⟨gb,0,none⟩=some (.bool true):=(ik.out.ext (Xq.trans hx)).cell 0;intro K hK;go_simp;exact hK _ _ (Ext.refl _) rfl
         case g1 | g11=>
          intro v w1 hx;(repeat intro (zq:v _=_));intro bb hbb;subst hbb;refine ⟨_,fun w=>?_,rfl⟩;go_simp
         case g2 | g3 | g4 | g5 | g6 | g7 | g8 | g9 | g10=>
          intro v w1 hx;(repeat intro (zq:v _=_));intro bb hbb;exact Flow.Q1i (d:=33) rfl rfl fzb09 fzc09 rfl
         case g12=>
          intro v w1 hx;(repeat intro (zq:v _=_));intro wl hT;obtain rfl:wl=w1:=hT;intro bb hbb;intro K hK;have o1:bb.eval (.tmp 10)=.pointer (some ⟨gb,0,none⟩):=fze09
          have o2:bb.eval (.tmp 43)=.bool true:=fzg09
          exact Q3t (.tmp 10) (.tmp 43) rfl Y5j o1 o2 rfl rfl (ik.out.ext (Xq.trans hx)) Nat.zero_lt_one (fun vv=>hK _ _ rfl)
         case post =>
          intro v w1 hx;(iterate 12 intro (zq:v _=_));intro w2 hE;replace hE:(fun v w1 w'=>w'=w1.setCell ⟨gb,0,none⟩ (.bool true)) v w1 w2:=hE;simp only [Flow.acts,Act.put];go_simp;subst hE;have HX:=hid (Xq.trans hx);clear hx Xq;(repeat clear zq)
          gi_wp2
          exact ⟨(X8j HX.out).trans (KeepsOthers.setCell _ _ _),(Q3u _ _ _ _ (by show gb + 1 ≠ gb; omega)).trans (Below.block HX.out _ (by have:=UJ.out; omega)),
           by rw [J1.out]; exact (ik.out.ext HX.out).set 0 _,(Below.trans V4.out (HX.out.mono (by omega))).setCell (p:=⟨gb,0,none⟩) (Nat.le_refl _) _,(Q8.out.ext HX.out).keeps (KeepsOthers.setCell _ _ _)⟩
       | false =>
         gi_wp2
         refine Flow.Z3w [.w,.p,.p,.w,.w,.p,.w,.p,.w,.p,.w,.p,.last] [0,1,2,3,4,5,6,7,8,9,10,11,12] [[],[0],[0,1],[0,1,2],[0,1],[0,1,2,3,4],[0,1,2,3,4,5],[0,1],[0,1,7],[0,1],[0,1,2,3,4,5,6,7,8,9],[0,1,2,3,4,5,6,7,8,9,10],[0,1,2,3,4,5,6,7,8,9,10,11]] [12]
          [.c 0 (.bool false),.c 1 (.bool false),.c 2 (.pointer (some ⟨gs,2,none⟩)),.c 3 (.slice (some ⟨bm,off,none⟩) M Vq),.c 4 (.int .i64 (i:Int)),.c 5 (.pointer (some ⟨bm,off + i * 5,none⟩)),.c 6 (.agg #[.string nm,.int .i64 wt,.slice X lc Sq,.slice Y lo Jq,.slice Z li Cq]),.c 7 (.pointer (some ⟨gs,0,none⟩)),.c 8 (.int .i64 lim),.c 9 (.slice Av cl.length cv),.c 10 (.bool kp),.c 11 (.bool kp),.none]
          [fun v w1 w'=>w'=w1.setCell ⟨gb,0,none⟩ (.bool kp)] (by kernel_rfl) (by kernel_rfl) rfl (by kernel_rfl) ⟨?g0,?g1,?g2,?g3,?g4,?g5,?g6,?g7,?g8,?g9,?g10,?g11,?g12,trivial⟩ ?post
         case g0=>
          intro v w1 hx;intro bb hbb;subst hbb;have n0:w1.cell? ⟨gb,0,none⟩=some (.bool false):=(ik.out.ext (Xq.trans hx)).cell 0;intro K hK;go_simp;exact hK _ _ (Ext.refl _) rfl
         case g1 | g11=>
          intro v w1 hx;(repeat intro (zq:v _=_));intro bb hbb;subst hbb;refine ⟨_,fun w=>?_,rfl⟩;go_simp
         case g2 | g5 | g7 | g9=>
          intro v w1 hx;(repeat intro (zq:v _=_));intro bb hbb;refine Flow.Q0d (d:=33) rfl rfl fzb09 fzc09 ?_
          subst hbb;refine ⟨_,fun w=>?_,rfl⟩;go_simp
         case g3 | g4 | g8=>
          intro v w1 hx;(repeat intro (zq:v _=_));intro bb hbb;refine Flow.Q0d (d:=33) rfl rfl fzb09 fzc09 ?_
          subst hbb;have n0:w1.cell? ⟨gs,2,none⟩=some (.slice (some ⟨bm,off,none⟩) M Vq):=(Fx.out.ext (Xq.trans hx)).cell 2;have n1:w1.cell? ⟨gs + 1,0,none⟩=some (.int .i64 (i:Int)):=(vz.out.ext (Xq.trans hx)).cell 0;have n2:w1.cell? ⟨gs,0,none⟩=some (.int .i64 lim):=(Fx.out.ext (Xq.trans hx)).cell 0;intro K hK;go_simp;exact hK _ _ (Ext.refl _) rfl
         case g6=>
          intro v w1 hx;(repeat intro (zq:v _=_));intro bb hbb;have f0:=(jg.out.trans (Xq.trans hx)).cell Nz.out;have f1:=(jg.out.trans (Xq.trans hx)).cell HE1'.out;have f2:=(jg.out.trans (Xq.trans hx)).cell fy.out;have f3:=(jg.out.trans (Xq.trans hx)).cell G6.out;have f4:=(jg.out.trans (Xq.trans hx)).cell r8.out;refine Flow.Q0d (d:=33) rfl rfl fzb09 fzc09 ?_
          subst hbb;intro K hK;go_simp;exact hK _ _ (Ext.refl _) rfl
         case g10=>
          intro v w1 hx;(repeat intro (zq:v _=_));intro bb hbb;refine Flow.Q0d (d:=33) rfl rfl fzb09 fzc09 ?_
          subst hbb;intro K hK;go_simp;refine Q0e (Kk.out w1 (Xq.trans hx)) ?_;rintro e w2 ⟨rfl,Nq⟩;exact ⟨_,rfl,hK _ _ Nq rfl⟩
         case g12=>
          intro v w1 hx;(repeat intro (zq:v _=_));intro wl hT;obtain rfl:wl=w1:=hT;intro bb hbb;intro K hK;have o1:bb.eval (.tmp 10)=.pointer (some ⟨gb,0,none⟩):=fze09
          have o2:bb.eval (.tmp 43)=.bool kp:=fzg09
          exact Q3t (.tmp 10) (.tmp 43) rfl Y5j o1 o2 rfl rfl (ik.out.ext (Xq.trans hx)) Nat.zero_lt_one (fun vv=>hK _ _ rfl)
         case post =>
          intro v w1 hx;(iterate 12 intro (zq:v _=_));intro w2 hE;replace hE:(fun v w1 w'=>w'=w1.setCell ⟨gb,0,none⟩ (.bool kp)) v w1 w2:=hE;simp only [Flow.acts,Act.put];go_simp;subst hE;have HX:=hid (Xq.trans hx);clear hx Xq;(repeat clear zq)
          gi_wp2
          exact ⟨(X8j HX.out).trans (KeepsOthers.setCell _ _ _),(Q3u _ _ _ _ (by show gb + 1 ≠ gb; omega)).trans (Below.block HX.out _ (by have:=UJ.out; omega)),
           by rw [J1.out]; exact (ik.out.ext HX.out).set 0 _,(Below.trans V4.out (HX.out.mono (by omega))).setCell (p:=⟨gb,0,none⟩) (Nat.le_refl _) _,(Q8.out.ext HX.out).keeps (KeepsOthers.setCell _ _ _)⟩
    . have zj:¬ (k:Int) < T:=by omega
      have Bc:k=T:=by omega
      subst Bc;clear Gq
      gi_wp2_with fail
      have Dc:Q5u s i=none:=pY.out CX.out;change LeavesInM Fence.wide 9 prog Tryz.f41 _ _ (marks Ds) _ _;refine Q6f (n0:=w.heap.size) (fun W=>Ext w W) (fun A B h ht=>Below.trans h (ht.below (Nat.le_refl _))) ?_ Ds _ oY.out (fun D h=>Nat.le_trans vq.out.size (aJ.out D h)) (vq.out.trans Pj.out);intro W hW;exact ⟨_,results_tmp2 rfl _ _ _,by rw [m7.out,uh.out,Dc]; rfl,hW⟩
  . have B6:Hid (Q9u s n=0):=hid (if_neg he)
    have Lv:Hid (Q9x s n=Q5r s n):=hid (if_neg he);have hne:(Q5r s n != 0)=true:=by simp [he]
    clear he
    gi_wp2
    change LeavesInM Fence.wide 9 prog Tryz.f41 _ _ (marks []) _ _;refine Q6f (n0:=w.heap.size) (fun W=>Ext w W) (fun A B h ht=>Below.trans h (ht.below (Nat.le_refl _))) ?_ [] _ (Marked.nil _) (fun D h=>absurd h List.not_mem_nil) vq.out;intro W hW;exact ⟨_,results_tmp2 rfl _ _ _,by rw [B6.out,Lv.out]; rfl,hW⟩
theorem Tryz.J8b:(prog.info? 64).map (fun i=>(i.zero,i.size,i.bytes))=some (some (.agg #[.slice none 0 0,.int .i64 0]),2,32):=by kernel_rfl
theorem Tryz.J8a (w:World):(sizeOf 64).run prog w=.ok 2 w:=by kernel_rfl
theorem Tryz.J7a (w:World):(sizeOf 69).run prog w=.ok 5 w:=by kernel_rfl
theorem Y6h {P:Program} {ops:Array Oper} {Q:Exit -> Act -> World -> Prop} {rest:List Oper} {a:Act} {w:World} {T ty:TypeId} {p x:Operand} {pos} {after} (h:wpList P ops Q (⟨none,.store T p x,ty,pos,after,none⟩ :: rest) a w):wpList P ops Q (⟨none,.store T p x,ty,pos,after,none⟩ :: rest) a w:=h
theorem J2e {a:ByteArray} {b:Int} {X Y Z:Option Addr} {l m n c d e:Nat}:∀ u ∈ (#[Value.string a,.int .i64 b,.slice X l c,.slice Y m d,.slice Z n e]:Array Value).toList,u.oneCell'=true:=by
 intro u hu;simp only [List.mem_cons,List.not_mem_nil,or_false] at hu
 rcases hu with rfl | rfl | rfl | rfl | rfl <;> rfl
theorem Y6p {w w':World} {base n size B:Nat} {e:TypeId} {v:Value} {xs:List Value} {o:Obj} (Yq:w.ownsRow base e size v n xs) (hg:(w.alloc o).grownBy w' v.ownBlock) (hb:B <= base) (hB:B <= w.heap.size):Below B w w' :=
 Below.grown ((Below.refl B w).alloc hB o) hg (by simp; omega) (fun k hk=>Nat.le_trans hb (Yq.lt k hk).1)
theorem J6j {s:Q0b} {k n:Nat} (hn:s.members.length=n) (hk:k < n):∃ h0 tl,X1o s k=h0 :: tl /\ Z5t (Y8u s) k=(h0 == k):=by
 have hm:k ∈ X1o s k:=List.mem_filter.2 ⟨List.mem_range.2 (by omega),by simp⟩
 obtain ⟨h0,tl,he⟩:∃ h0 tl,X1o s k=h0 :: tl:=by
  cases h:X1o s k with
  | nil=>rw [h] at hm; cases hm
  | cons a b=>exact ⟨a,b,rfl⟩
 refine ⟨h0,tl,he,?_⟩;have h:=Y3h (f:=Y8u s) (k:=s.members.length) (i:=k) (by omega)
 rw [<- X6j,he] at h;rw [<- h]; rfl
theorem J2a {X:Option Addr} {l c:Nat} {i:Int}:∀ u ∈ (#[Value.slice X l c,.int .i64 i]:Array Value).toList,u.oneCell'=true:=by
 intro u hu;simp only [List.mem_cons,List.not_mem_nil,or_false] at hu
 rcases hu with rfl | rfl <;> rfl
theorem GrR.grown {w w':World} {base n size:Nat} {e:TypeId} {cv:Value} {xs:List Value} {gl:List (Value × Grp)} (h:GrR w gl) (Yq:w.ownsRow base e size cv n xs) (he:e ≠ 3) (hg:w.grownBy w' cv.ownBlock):GrR w' gl:=fun q hq=>Q4e (h q hq) Yq he hg
theorem Z5h {w w':World} {g:Nat} {T:TypeId} {cs:Array Value} {row:Option Nat} {o:Obj} (hb:Blk w g T cs) (hne:∀ b,row=some b -> b ≠ g) (hg:(w.alloc o).grownBy w' row):Blk w' g T cs:=by
 have hl:=hb.lt;have h1:=hg.block g (by simp; omega) (by intro e; exact hne g (by first | exact e | exact e.symm) rfl)
 unfold Blk at hb ⊢;rw [h1,Below.heap_alloc w o g hl]; exact hb
theorem _root_.Go.Flow.Turns.K0u {α:Type} {B b k:Nat} {A A':World} (h:Turns B A A') {T:TypeId} {enc:α -> List Value} {v:Value} {l:List α} (ho:Q1d A b T k enc v l):Q1d A' b T k enc v l:=by
 obtain ⟨h1,h2⟩:=ho;refine ⟨h1,?_⟩
 rcases h2 with h2 | ⟨g,Qq,cur,hv,Ux,Bj,r⟩
 . exact .inl h2
 . exact .inr ⟨g,Qq,cur,hv,Ux,h.cells Bj rfl,r⟩
theorem Z1h (s:Q0b):(Q6o s).length <= s.members.length:=by
 rw [X5e,List.length_map]; exact X1i _ _
theorem Y7f (s:Q0b):∀ g ∈ Q6o s,g.members.length <= s.members.length:=by
 intro g hg;rw [X5e] at hg;obtain ⟨i,_,rfl⟩:=List.mem_map.1 hg;show ((Q6l _ _ _).map _).length <= _;rw [List.length_map];have h1:(Q6l (Y8u s) s.members.length i).length <= (List.range s.members.length).length:=List.length_filter_le ..;rw [List.length_range] at h1; exact h1
theorem Z9p {w:World} {B:Nat} {v:Value} {gl:List (Value × Grp)} (h:Q1d w B 64 2 Y4x v gl) (hr:GrR w gl) (hl:gl.length <= 1000) (hm:∀ q ∈ gl,q.2.members.length <= 1000):Q5s w v (gl.map (·.2)):=by
 refine h.rowsOf (by simp) (by simp; omega) Y6e (fun j h1 h2=>?_) (fun c c' x hc h=>?_)
 . have hq:=List.getElem_mem h1
   simp only [List.getElem_map];exact ⟨(hr _ hq).ints (by have:=hm _ hq; omega),rfl⟩
 . exact ⟨by rw [<- hc 0 (by omega)]; exact h.1,by rw [<- hc 1 (by omega)]; exact h.2⟩
structure J9o (s:Q0b) (w0:World) (k:Nat) (vo vs:Value) (Ds:List Nat) (W:World):Prop where
 le:k <= s.members.length
 own:∃ gl:List (Value × Grp),Q1d W w0.heap.size 64 2 Y4x vo gl /\ gl.map (·.2)=Q6k s k /\ GrR W gl
 sum:vs=.int .i64 ((Q6k s k).map Grp.weight).sum
 marked:Marked W Ds
 low:∀ D,D ∈ Ds -> w0.heap.size <= D
 ext:Ext w0 W
theorem Z1r (w:World) (v:Value) (s:Q0b) (hv:Q0i w v s) (Xw:Q0r s) :
    Calls prog 110 #[v] w fun e w'=>∃ x,e=.returned (.tuple #[x,.int .i64 (Z3r s)]) /\ Q5s w' x (Q6o s) /\ Ext w w':=by
 obtain ⟨i0,hi,dq,fq,Zj⟩:=info_parts info3;obtain ⟨a,b,rfl,h2⟩:=hv;obtain ⟨A,Tq,rfl,-,-,-⟩:=h2.ships.opened;obtain ⟨B,Vq,rfl,-,-,-⟩:=h2.members.opened;have H2:=hid h2;have HV:=hid Xw;clear h2 Xw;refine (callsIn_wide (n:=9)).1 ?_;refine callsIn_of_wp_marks func110 rfl trivial ?_ rfl;simp only [ntmps110,List.size_toArray,List.length_cons,List.length_nil,Nat.reduceAdd,Nat.reduceSub,Array.replicate_succ,Array.replicate_zero,List.push_toArray,List.append_toArray,List.nil_append,List.cons_append]
 gi_wp2_with fail
 obtain ⟨W,Mq,k0,Rq,eW⟩:=Q2q w 34 #[.int .i64 s.limit,.slice A s.ships.length Tq,.slice B s.members.length Vq];rw [Mq];clear Mq;obtain ⟨gs,Rj⟩:∃ x,w.heap.size=x:=⟨_,rfl⟩;have rx:=hid Rj;rw [Rj] at k0 eW ⊢;obtain ⟨w0,rfl⟩:∃ X,X=W:=⟨_,rfl⟩;have KS:=hid k0;have uZ:=hid (H2.out.ext Rq.out);have Bo:Hid (w0.heap.size=gs + 1):=hid eW;clear k0 Rj eW;obtain ⟨n,hn⟩:∃ n,s.members.length=n:=⟨_,rfl⟩;have HN:Hid (s.members.length=n):=hid hn;rw [hn] at KS ⊢;obtain ⟨T,hT⟩:∃ n,s.ships.length=n:=⟨_,rfl⟩;have HT:Hid (s.ships.length=T):=hid hT;rw [hT] at KS ⊢;have b8:n <= 8:=by have:=HV.out.some; omega
 have nY:T <= 6:=by have:=HV.out.tides; omega
 clear hn hT H2;refine Y0e 19 n 0 [4,5,6,7,8,9,10,11,19,20,21,22,23,24,25,26,27,28,29,30,31,32,33,34,35,36,37,38,39,40,41,42,43,44,45,46,47,48,49,80,81,82,83,84,85,86,87,88] [] (fun k a Ds W1=>a.tmps.getD 19 undef=.int .i64 k /\ J9o s w0 k (a.tmps.getD 4 undef) (a.tmps.getD 5 undef) Ds W1) (fun k a Ds w h=>by rw [h.1]; rfl) rfl (by kernel_rfl)
  ⟨rfl,⟨Nat.zero_le _,⟨[],Q1d.nil _ _ _ _ _,rfl,GrR.nil _⟩,rfl,Marked.nil _,(fun D h=>absurd h List.not_mem_nil),Ext.refl _⟩⟩ ?round
 rintro k u Ds wA ⟨EV,hG⟩ K hK;simp only [X6m,List.foldl_cons,List.foldl_nil,List.setIfInBounds_toArray,List.set_cons_succ,List.set_cons_zero] at EV hG ⊢;replace EV:u 19=.int .i64 k:=EV;replace hG:J9o s w0 k (u 4) (u 5) Ds wA:=hG;rw [EV];have rh:=hG.sum;rw [rh];have HG:=hid hG;have HK:=hid hK;obtain ⟨vo,qh⟩:∃ x,u 4=x:=⟨_,rfl⟩;rw [qh] at HG ⊢;have hk:k <= n:=by have:=hG.le; rw [HN.out] at this; exact this
 clear EV hG hK rh qh
 by_cases Uq:k < n
 . have zj:(k:Int) < n:=by omega
   refine wpIn_wide.2 ?_;have Ej:=HG.out.ext;have Ax:=KS.out.ext Ej;have Y9:=uZ.out.ext Ej;obtain ⟨bm,off,Sq,Jq,Cq,X,Y,Z,rq⟩:=Q3e Y9.members (k:=k) (by rw [HN.out]; exact Uq)
   have hA:=rq.addr;subst hA;have Kg:=hid rq;have e0:=rq.e0;have e1:=rq.e1;have e2:=rq.e2;have e3:=rq.e3;have e4:=rq.e4;obtain ⟨nm,Aj⟩:∃ x,Q1s s.members k=x:=⟨_,rfl⟩;obtain ⟨wt,lq⟩:∃ x,Q0n s.members k=x:=⟨_,rfl⟩;obtain ⟨lc,vj⟩:∃ x,(Q0c s.members k).length=x:=⟨_,rfl⟩;obtain ⟨lo,Sx⟩:∃ x,(Q1c s.members k).length=x:=⟨_,rfl⟩;obtain ⟨li,mj⟩:∃ x,(Q1f s.members k).length=x:=⟨_,rfl⟩;have Wz:=hid rq.x;rw [Aj] at e0;rw [lq] at e1;rw [vj] at e2 Wz;rw [Sx] at e3;rw [mj] at e4;have c2:wA.cell? ⟨gs,2,none⟩=some (.slice (some ⟨bm,off,none⟩) n Vq):=Ax.cell 2;have R4:=hid Ax;have HS2r:=hid Y9;clear Ej Ax Y9 rq Aj lq vj Sx mj;go_wp2_with (with_reducible (refine Y6h ?_); refine Q0t rfl _ _ _ rfl J7a rfl rfl (Blk.made _ _ _) rfl rfl J2e ?_; intro w3 zk By M3; refine halted ?_);obtain ⟨gm,fx⟩:∃ x,wA.heap.size=x:=⟨_,rfl⟩;have NZ:=hid fx;have yj:Ext wA w3:=Below.trans (Ext.box wA _) (By _ (Nat.le_refl _));have DV:gm < w3.heap.size:=by have:=(By _ (Nat.le_refl _)).size; simp at this; omega
   rw [fx] at zk ⊢;have O1:=hid zk;have Lg:=hid yj;have CV:=hid DV;have c2b:(w3.alloc (.cells #[.slice none 0 0] 22)).cell? ⟨gs,2,none⟩=some (.slice (some ⟨bm,off,none⟩) n Vq):=(yj.trans (Ext.box w3 _)).cell c2;clear zk By M3 yj fx c2 e0 e1 e2 e3 e4 DV;unfold Q1o;go_wp2_with fail;obtain ⟨W,Mq,k0,Rq,eW⟩:=Q2q w3 22 #[.slice none 0 0];rw [Mq];clear Mq;obtain ⟨gb,xw⟩:∃ x,w3.heap.size=x:=⟨_,rfl⟩;have t8:=hid xw;have E7:=hid (Lg.out.trans Rq.out);have zc:gm < gb:=by have:=CV.out; omega
   rw [xw] at k0 eW ⊢;obtain ⟨w4,rfl⟩:∃ X,X=W:=⟨_,rfl⟩;have yc:=hid k0;have zo:=hid (O1.out.ext Rq.out);have BV:Hid (w4.heap.size=gb + 1):=hid eW;clear k0 eW xw Rq O1 Lg CV c2b;obtain ⟨cl,hcl⟩:∃ x,Q0c s.members k=x:=⟨_,rfl⟩;have pz:Hid (Q0c s.members k=cl):=hid hcl;rw [hcl] at Wz;have ph:=hid (fun j=>Y2w s j k);rw [hcl] at ph;clear hcl
   go_loopw [28] (fun i w5=>∃ (j:Nat) (vm:Value),j <= n /\ i=.int .i64 j /\ Blk w5 gb 22 #[vm] /\ Q0q w5 (gb + 1) 3 (.int .i64) vm (X7r s j k) /\ Below gb w4 w5 /\ gb + 1 <= w5.heap.size) (fun i _=>n - (intOf i).toNat)
   case atStart=>exact ⟨0,_,Nat.zero_le _,rfl,yc.out,Q0q.nil _ _ _ _,Below.refl _ _,by have:=BV.out; omega⟩
   case round =>
    obtain ⟨j,vm,hj,rfl,BX,Yq,Yj,Gc⟩:=hrel
    by_cases yo:j < n
    . have M8:(j:Int) < n:=by omega
      have TJ:Ext wA wr:=Below.trans E7.out (Yj.mono (by have:=NZ.out; omega))
      have Fy:=zo.out.below Yj zc;have HQ:=hid (Z2v wr gs gm j _ _ s _ _ _ _ _ cl (by rw [HN.out,HT.out]; exact R4.out.ext TJ) (HS2r.out.ext TJ) Fy (Wz.out.ext TJ) (by rw [HN.out]; exact yo))
      obtain ⟨q,hq⟩:∃ q,decide (Q0c s.members j=cl)=q:=⟨_,rfl⟩;have vQ:=ph.out j;rw [hq] at HQ vQ;have FZ:=hid vQ;have L3:=hid Yj;have Dq:=Y0v s k j;have Bw:(X7r s j k).length <= 4096:=by omega
      obtain ⟨w5,rfl⟩:∃ X,X=wr:=⟨_,rfl⟩;clear hq vQ TJ Fy Yj Dq;cases q with
      | false =>
        go_wp2_with (go_at_call 169; refine HQ.out.mono ?_; rintro e w6 ⟨rfl,Mj⟩);go_roundw
        case rel=>exact ⟨j + 1,vm,by omega,by go_num,BX.ext Mj,by rw [FZ.out]; simpa using Yq.below Mj,Below.trans L3.out (Mj.mono (by omega)),by have:=Mj.size; omega⟩
        case measure=>simp [intOf]; omega
      | true =>
        go_wp2_with (go_at_call 169; refine HQ.out.mono ?_; rintro e w6 ⟨rfl,Mj⟩; refine halted ?_);have G5:=BX.ext Mj;have j5:=Yq.below Mj;have jb:gb + 1 <= w6.heap.size:=by have:=Mj.size; omega
        have c6:w6.cell? ⟨gb,0,none⟩=some vm:=G5.cell 0;have m6:=hid G5;have bj:=hid Mj;clear BX Yq G5;unfold Q1o;go_wp2_with ((at_builtin; refine wpList_append_own _ rfl _ _ 22 rfl (gb + 1) 3 i0 (.int .i64 0) 1 8 underlying22 hi dq fq Zj rfl (by decide) _ _ _ rfl (World.ownsRow.alloc j5 _) ⟨w6.heap.size,0,none⟩ 1 1 [.int .i64 (j:Int)] rfl rfl ?_ ?_ ?_ ?_ ?_ ?_; exact Q5y _ _ _; (focus (simp [Value.oneCell'])); (focus (unfold maxLen; omega)); (focus omega); (focus (have:=Mj.size; simp at this ⊢; omega)); intro v' w1 Oq Pq _); refine halted ?_)
        have mx:Below (gb + 1) w6 w1:=Y6p j5 Pq (Nat.le_refl _) jb;have yz:=m6.out.below mx (by omega)
        have c1':w1.cell? ⟨gb,0,none⟩=some vm:=yz.cell 0;have f1:=yz.frozen 0;have jk:=hid yz;have zv:=hid mx;have XJ:Hid (gb + 1 <= w1.heap.size):=hid (by have:=mx.size; omega)
        have kq:=hid (show Q0q w1 (gb + 1) 3 (.int .i64) v' (X7r s j k ++ [(j:Int)]) from Q0q.snoc Oq)
        clear Pq yz mx Oq j5 Mj;obtain ⟨Av,cv',rfl,-⟩:=kq.out.shape;unfold Q1o;go_wp2;go_roundw
        case rel=>exact ⟨j + 1,_,by omega,by go_num,jk.out.set 0 _,by rw [show X7r s (j + 1) k=X7r s j k ++ [(j:Int)] from by rw [FZ.out]; rfl]; have h:=kq.out; rw [List.length_append] at h; exact h.setCell (p:=⟨gb,0,none⟩) (Nat.lt_succ_self _) _,(Below.trans L3.out (Below.trans (bj.out.mono (by omega)) (zv.out.mono (Nat.le_succ _)))).setCell (p:=⟨gb,0,none⟩) (Nat.le_refl _) _,by have:=XJ.out; simp; omega⟩
        case measure=>simp [intOf]; omega
    . have M8:¬ (j:Int) < n:=by omega
      have U7:j=n:=by omega
      subst U7;obtain ⟨w5,rfl⟩:∃ X,X=wr:=⟨_,rfl⟩;have TJ:Ext wA w5:=Below.trans E7.out (Yj.mono (by have:=NZ.out; omega))
      have nh:X7r s j k=X9e s k:=by unfold X7r X9e; rw [X6j,HN.out]
      have Dq:=Y0v s k j;rw [nh] at Yq Dq;obtain ⟨h0,tl,fz,i7⟩:=J6j HN.out Uq;have AV:X9e s k=(h0:Int) :: tl.map Int.ofNat:=by unfold X9e; rw [fz]; rfl
      have mY:0 < (X9e s k).length:=by rw [AV]; simp
      have T9:ix (X9e s k) 0=(h0:Int):=by rw [AV]; rfl
      have kq:=hid Yq
      rcases Yq.cells2 with ⟨_,h⟩ | ⟨gv,cv,rfl,zV,Ta,zr,N1⟩
      . rw [AV] at h; cases h
      . have Rw:w5.cell? ⟨gv,0,none⟩=some (.int .i64 (h0:Int)):=by
         have h:=N1 0 mY;rw [show (X9e s k)[0]=(h0:Int) from by rw [<- T9,Q5g mY]] at h
         exact h
        have i5:=hid N1;have SJ:w5.cell? ⟨gb,0,none⟩=some (.slice (some ⟨gv,0,none⟩) (X9e s k).length cv):=BX.cell 0;have lY:=hid BX;have Lq:=hid TJ;have G7:=hid Yj;have yV:=hid fz;have jw:=hid Dq;have xo:=hid AV;obtain ⟨L,hL⟩:∃ L,X9e s k=L:=⟨_,rfl⟩;have Zw:=hid hL;obtain ⟨N,hN⟩:∃ N,L.length=N:=⟨_,rfl⟩;have mh:=hid hN;rw [hL] at SJ mY i5 lY kq jw xo;rw [hN] at SJ mY lY kq jw;have uo:(0:Int) < N:=by omega
        clear hL hN BX TJ Yj fz Dq AV N1 T9 zV Ta nh Yq
        by_cases RJ:Z5t (Y8u s) k=true
        . have he:h0=k:=by rw [i7] at RJ; simpa using RJ
          have hne:((h0:Int) != (k:Int))=false:=by simp [he]
          have so:=hid RJ;clear RJ i7;go_wp2_with (with_reducible (refine Y6h ?_); refine Q0t rfl _ _ _ rfl J8a rfl rfl (Blk.made _ _ _) rfl rfl J2a ?_; intro w7 vw lh ro; refine halted ?_);obtain ⟨gg,kY⟩:∃ x,w5.heap.size=x:=⟨_,rfl⟩;have AX:=hid kY;rw [kY] at vw ⊢;have V3:Ext w5 w7:=Below.trans (Ext.box w5 _) (lh _ (Nat.le_refl _));have mg:=hid V3;have QJ:=hid (Lq.out.trans V3);have R3:=hid vw;have xV:=hid (lY.out.ext V3);have c16:w7.cell? ⟨gs,1,none⟩=some (.slice A T Tq):=(R4.out.ext QJ.out).cell 1;have PJ:gg < w7.heap.size:=by have:=vw.lt; omega
          clear vw lh ro V3 kY SJ Rw hne;unfold Q1o;go_wp2_with (go_at_call 112; refine (Y5t w7 (T:Int)).mono ?_; rintro e w8 ⟨rfl,S0,SQ,Ry⟩; refine halted ?_);have qo:=hid (R3.out.ext Ry);have uw:=hid (QJ.out.trans Ry);have vV:=hid (xV.out.ext Ry);obtain ⟨ge,D9⟩:∃ x,w7.heap.size=x:=⟨_,rfl⟩;rw [D9] at S0 SQ PJ ⊢;have uV:=hid PJ;have po:=hid (kq.out.below (mg.out.trans Ry));have d7:=hid (mg.out.trans Ry);have jJ:T <= 8:=by omega
          clear Ry c16 D9 R3 xV mg QJ lY PJ;unfold Q1o;go_wp2_with fail;obtain ⟨ml,b5⟩:∃ l,X1o s k=l:=⟨_,rfl⟩;have jY:Hid (X1o s k=ml):=hid b5;have uc:L=ml.map Int.ofNat:=by rw [<- Zw.out,<- b5]; rfl
          have jh:ml.length=N:=by rw [<- mh.out,uc,List.length_map]
          have pq:∀ x ∈ ml,x < j:=fun x hx=>by rw [<- b5] at hx; have:=List.mem_range.1 (List.mem_filter.1 hx).1; rw [HN.out] at this; exact this
          have E6:=hid pq;have tc:ml.length <= 8:=by have:=jw.out; omega
          have tV:=fun c=>Z1w HV.out (l:=ml) (fun x hx=>by rw [HN.out]; exact pq x hx) tc c
          have gh:=hid tV;have sV:=fun c jj C2=>Y5h HV.out (l:=ml) (fun x hx=>by rw [HN.out]; exact pq x hx) c jj C2
          have mo:=hid sV;have sc:=hid uc;have rc:=hid jh;clear b5 uc jh pq tV sV yV;refine (wpIn_wide (n:=9)).1 ?_;refine X2o (n:=9) rfl (by omega) (gf:=170) (lb:=#[.pointer (some ⟨ge,0,none⟩)]) rfl trivial (enters_of func170 (by kernel_rfl) rfl)
           (X6a _ ge T w8 jJ S0) rfl (fun h1 h2=>Eq.trans h2 h1) (fun h=>h.same (by omega)) (fun h ho=>h.own ho)
           (fun c W=>Blk W gg 64 #[.slice (some ⟨gv,0,none⟩) N cv,.int .i64 (Z7t s ml c)] /\ Below gg w8 W /\ Marked W Ds)
           (fun c A B ⟨h1,h2,h3⟩ hx=>⟨h1.ext hx,Below.trans h2 (hx.mono (by have:=h1.lt; omega)),h3.ext hx⟩)
           (fun h ⟨h1,h2,h3⟩=>⟨h.blk h1,Below.trans h2 (h.below (by have:=uV.out; omega)),h3.turns (fun D hD=>by have:=HG.out.marked.lt hD; have:=uw.out.size; omega) h⟩)
           ⟨qo.out,Below.refl _ _,HG.out.marked.ext uw.out⟩ ?frm ?assign ?body ?done
          case assign =>
           intro l x W K hK
           gi_wp2
           exact hK
          case done =>
           rintro D W hD ⟨hb,hB,B5⟩ GV;have pc:Z7t s ml (2 ^ T)=(Z0u s k).weight:=by show _=Y6w s (X1o s k); rw [jY.out]; unfold Y6w Z7t; rw [HT.out]
           rw [pc] at hb;have Gx:Ext wA W:=Below.trans uw.out (hB.mono (by have:=Lq.out.size; have:=AX.out; omega))
           have Cz:0 <= (Z0u s k).weight /\ (Z0u s k).weight <= 8000:=by rw [<- pc]; exact gh.out _
           have r5:Marked W (D :: Ds):=B5.cons GV fun E hE=>by have:=HG.out.marked.lt hE; have:=uw.out.size; omega
           have m5:∀ E,E ∈ D :: Ds -> w0.heap.size <= E:=fun E hE=>by
            rcases List.mem_cons.1 hE with rfl | hE
            . have:=uw.out.size; have:=HG.out.ext.size; omega
            . exact HG.out.low E hE
           obtain ⟨gl,ho,fx,Qw⟩:=HG.out.own;have Dv:Q0q W (gb + 1) 3 (.int .i64) (.slice (some ⟨gv,0,none⟩) N cv) L:=kq.out.below (Below.trans d7.out (hB.mono (by have:=AX.out; omega)))
           have fh:gl.length <= 8:=by
            have h:=congrArg List.length fx;rw [List.length_map,Q6k,List.length_map] at h;have:=X1i (Y8u s) k;omega
           have hsm:=J7b HV.out k;have rV:=Z7b (s:=s) (k:=k) so.out;have ay:∀ b,vo.ownBlock=some b -> b ≠ gg:=fun b hb e=>by
            have:=(World.ownsRow.lt ho b hb).2;have:=Lq.out.size; have:=AX.out; omega
           have Yq:=ho.below Gx;have qV:=Qw.ext Gx;have OJ:=HG.out.ext.trans Gx;have HY:=hid rV;have EQ:=hid hb;have l7:=hid r5;have j7:=hid m5;have ko:=hid OJ;have jo:=hid Dv;have kc:=hid fx;have zX:=hid qV;have d0:W.cell? ⟨gg,0,none⟩=some (.slice (some ⟨gv,0,none⟩) N cv):=hb.cell 0;have d1:W.cell? ⟨gg,1,none⟩=some (.int .i64 (Z0u s k).weight):=hb.cell 1;obtain ⟨gw,NJ⟩:∃ x,(Z0u s k).weight=x:=⟨_,rfl⟩;have C1:Hid ((Z0u s k).weight=gw):=hid NJ;rw [NJ] at d1 Cz EQ;clear hb hB B5 GV pc r5 m5 ho Qw qV Dv rV fx NJ;obtain ⟨i0,hi,dq,fq,Zj⟩:=info_parts J8b;go_wp2_with ((at_builtin; refine wpList_append_own _ rfl _ _ 60 rfl (w0.heap.size) 64 i0 (.agg #[.slice none 0 0,.int .i64 0]) 2 32 underlying60 hi dq fq Zj rfl (by decide) _ _ _ rfl (World.ownsRow.alloc Yq _) ⟨W.heap.size,0,none⟩ 1 1 [.slice (some ⟨gv,0,none⟩) N cv,.int .i64 gw] rfl rfl ?_ ?_ ?_ ?_ ?_ ?_; exact X7y _ _ _; (focus (simp [Value.oneCell'])); (focus (unfold maxLen; omega)); (focus omega); (focus (have:=OJ.size; simp at this ⊢; omega)); intro v' w1 Oq Pq _); refine halted ?_)
           have jc:=hid (Z5h EQ.out ay Pq);have eh:Ext w0 w1:=Q3r OJ Yq (Nat.le_refl _) Pq;have lj:KeepsOthers W w1:=(KeepsOthers.alloc W _).trans (KeepsOthers.of_grownBy Pq (fun j o h1 h2=>by
            rcases Yq.2 with ⟨PY,_⟩ | ⟨g,Qq,cur,PY,_,WX,_⟩
            . have h1:vo.ownBlock=some j:=h1
              rw [PY] at h1; cases h1
            . have h1:vo.ownBlock=some j:=h1
              rw [PY] at h1; cases h1;have:=Below.block (Ext.box W (.cells #[.slice (some ⟨gv,0,none⟩) N cv,.int .i64 gw] 64)) g (Array.getElem?_eq_some_iff.1 WX).1;rw [this,WX] at h2; cases h2; rfl))
           have Kk:=hid lj;have io:=hid eh;have ic:=hid (show Q1d w1 w0.heap.size 64 2 Y4x v' (gl ++ [(.slice (some ⟨gv,0,none⟩) N cv,Z0u s k)]) from Q1d.snoc (by show w1.ownsRow _ _ _ _ _ (gl.flatMap Y4x ++ [.slice (some ⟨gv,0,none⟩) N cv,.int .i64 (Z0u s k).weight]); rw [C1.out]; exact Oq))
           have fc:=hid (GrR.grown (zX.out.ext (Ext.box W _)) (World.ownsRow.alloc Yq _) (by decide) Pq)
           have ec:=hid (Q4e (jo.out.weaken (Nat.zero_le _) |>.below (Ext.box W _)) (World.ownsRow.alloc Yq _) (by decide) Pq)
           have d1:w1.cell? ⟨gg,1,none⟩=some (.int .i64 gw):=jc.out.cell 1;have ac:IntKind.i64.wrap (((Q6k s k).map Grp.weight).sum + gw)=((Q6k s k).map Grp.weight).sum + gw:=Q2j _ (by omega) (by omega)
           obtain ⟨sm,MJ⟩:∃ x,((Q6k s k).map Grp.weight).sum=x:=⟨_,rfl⟩;have Zd:=hid MJ;rw [MJ] at ac hsm ⊢;clear Yq Oq Pq eh lj MJ d0;unfold Q1o;go_wp2;have fo:J9o s w0 (k + 1) v' (.int .i64 (sm + gw)) (D :: Ds) w1 :=
            ⟨by rw [HN.out]; omega,⟨gl ++ [(.slice (some ⟨gv,0,none⟩) N cv,Z0u s k)],ic.out,by rw [List.map_append,kc.out,HY.out]; rfl,fc.out.snoc (by show Q0q _ _ _ _ _ (X9e s k); rw [Zw.out]; exact ec.out)⟩,
            by rw [HY.out,List.map_append,List.sum_append,Zd.out]; show Value.int .i64 (sm + gw)=_; simp [C1.out],l7.out.keeps Kk.out,j7.out,io.out⟩
           exact HK.out _ _ (D :: Ds) Uq (by kernel_rfl) rfl ⟨rfl,fo⟩
          case body =>
           rintro l c vc W hc ⟨hb,hB,B5⟩ Yz;have Gx:Ext wA W:=Below.trans uw.out (hB.mono (by have:=Lq.out.size; have:=AX.out; omega))
           have Yd:gb < gg:=by have:=vV.out.lt; have:=G7.out.size; have:=BV.out; have:=AX.out; omega
           have c9:W.cell? ⟨gb,0,none⟩=some (.slice (some ⟨gv,0,none⟩) N cv):=(vV.out.below hB Yd).cell 0;have Rq:=hid Gx;have EQ:=hid hb;have V4:=hid hB;have Q8:=hid B5;have yk:=X3m c T;obtain ⟨cl9,LJ⟩:∃ x,Q6n c T=x:=⟨_,rfl⟩;rw [LJ] at Yz yk;have Xd:Hid (Q6n c T=cl9):=hid LJ;have ao:=hid Yz;obtain ⟨Ac,cc,rfl,-⟩:=Yz.shape;have y6:Hid (cl9.length=T):=hid yk;clear hb hB B5 Yz LJ Gx yk
           gi_wp2
           clear c9
           gi_loopw [53,13] (fun i nn wq=>∃ jj:Nat,jj <= N /\ i=.int .i64 jj /\ nn=.int .i64 (Y1v s ml c jj) /\ Ext W wq) (fun i _ _=>N - (intOf i).toNat)
           case atStart=>exact ⟨0,Nat.zero_le _,rfl,rfl,Ext.refl _⟩
           case round =>
            obtain ⟨jj,C2,rfl,rfl,S9⟩:=hrel;have Kz:=mo.out c jj (by rw [rc.out]; exact C2)
            by_cases Qj:jj < N
            . have M8:(jj:Int) < N:=by omega
              have iY:jj < ml.length:=by rw [rc.out]; exact Qj
              have Fy:=E6.out ml[jj] (List.getElem_mem iY);have Sv:=Y2l (s:=s) (c:=c) iY;obtain ⟨kk,K7⟩:∃ x,ml[jj]=x:=⟨_,rfl⟩;have kg:wr.cell? ⟨gv,jj,none⟩=some (.int .i64 (kk:Int)):=by
               have h:=i5.out jj (by rw [sc.out,List.length_map]; exact iY)
               rw [Nat.zero_add,show L[jj]'(by rw [sc.out,List.length_map]; exact iY)=(kk:Int) from by simp only [sc.out,List.getElem_map,K7]; rfl] at h
               have Wd:Ext w5 wr:=Below.trans d7.out (Below.trans (V4.out.mono (by have:=AX.out; omega)) (S9.mono (by have:=d7.out.size; have:=V4.out.size; omega)))
               exact Wd.cell h
              rw [K7] at Fy Sv;have Gq:Ext wA wr:=Rq.out.trans S9;obtain ⟨bm',off',capx',capy',capz',X',Y',Z',rq⟩:=Q3e (HS2r.out.ext Gq).members (k:=kk) (by rw [HN.out]; exact Fy)
              have hA:=rq.addr;injection hA with hA;injection hA with Zp JX;subst Zp JX;have lq:=HV.out.weights kk (by rw [HN.out]; exact Fy)
              have Nz:=hid rq.e0;have Mw:=hid rq.e1;have fy:=hid rq.e2;have G6:=hid rq.e3;have r8:=hid rq.e4;have Kk:=hid (fun (w1:World) (hx:Ext wr w1)=>X0v w1 _ _ (Q1g s kk) s.limit cl9 (rq.mem hx) ((ao.out.bools (by rw [y6.out]; omega)).ext (S9.trans hx)) (by rw [y6.out]; omega) (by rw [y6.out]; exact X1t HV.out (by rw [HN.out]; exact Fy) (by rw [HT.out]; exact Nat.le_refl _)))
              obtain ⟨nm',pV⟩:∃ x,Q1s s.members kk=x:=⟨_,rfl⟩;obtain ⟨wt',oV⟩:∃ x,Q0n s.members kk=x:=⟨_,rfl⟩;obtain ⟨lc',nV⟩:∃ x,(Q0c s.members kk).length=x:=⟨_,rfl⟩;obtain ⟨lo',mV⟩:∃ x,(Q1c s.members kk).length=x:=⟨_,rfl⟩;obtain ⟨li',lV⟩:∃ x,(Q1f s.members kk).length=x:=⟨_,rfl⟩;rw [pV] at Nz Kk;rw [oV] at Mw Kk Sv lq;rw [nV] at fy Kk;rw [mV] at G6 Kk;rw [lV] at r8 Kk;rw [HT.out,Xd.out] at Sv;obtain ⟨kp,Oj⟩:∃ x,(Q1g s kk).keeps s.limit cl9=x:=⟨_,rfl⟩;rw [Oj] at Kk Sv;obtain ⟨kj,kV⟩:∃ x,Y1v s ml c jj=x:=⟨_,rfl⟩;rw [kV] at Sv Kz ⊢;have Fj:=hid Sv;have KJ:=hid (R4.out.ext Gq);have yX:=hid S9;have Xq:=(Ext.refl wr).drew;have Yp:(kk:Int) < j:=by omega
              have dh:IntKind.i64.wrap (kj + wt')=kj + wt':=Q2j _ (by omega) (by omega)
              obtain ⟨wx,rfl⟩:∃ X,X=wr:=⟨_,rfl⟩;clear K7 rq pV oV nV mV lV Oj kV Sv Gq S9
              gi_wp2
              refine Flow.X4i [.p,.w,.p,.p,.w,.p,.w,.p,.w] [0,1,2,3,4,5,6,7,8] [[],[0],[],[1,2],[3],[],[5],[],[4,6,7]]
               [.c 0 (.pointer (some ⟨gs,2,none⟩)),.c 1 (.slice (some ⟨bm,off,none⟩) j Vq),.c 2 (.int .i64 (kk:Int)),.c 3 (.pointer (some ⟨bm,off + kk * 5,none⟩)),.c 4 (.agg #[.string nm',.int .i64 wt',.slice X' lc' capx',.slice Y' lo' capy',.slice Z' li' capz']),.c 5 (.pointer (some ⟨gs,0,none⟩)),.c 6 (.int .i64 s.limit),.c 7 (.slice Ac cl9.length cc),.c 8 (.bool kp)]
               (by kernel_rfl) (by kernel_rfl) rfl (by kernel_rfl) ⟨?g0,?g1,?g2,?g3,?g4,?g5,?g6,?g7,?g8,trivial⟩ ?post
              case g0 | g2 | g5 | g7=>
               intro v w1 hx;intro bb hbb;subst hbb;refine ⟨_,fun w=>?_,rfl⟩;go_simp
              case g1 | g6=>
               intro v w1 hx;(repeat intro (zq:v _=_));intro bb hbb;subst hbb;have n0:w1.cell? ⟨gs,2,none⟩=some (.slice (some ⟨bm,off,none⟩) j Vq):=(KJ.out.ext (Xq.trans hx)).cell 2;have n1:w1.cell? ⟨gs,0,none⟩=some (.int .i64 s.limit):=(KJ.out.ext (Xq.trans hx)).cell 0;intro K hK;go_simp;exact hK _ _ (Ext.refl _) rfl
              case g3=>
               intro v w1 hx;(repeat intro (zq:v _=_));intro bb hbb;subst hbb;refine ⟨_,fun w=>?_,rfl⟩;go_simp
              case g4=>
               intro v w1 hx;(repeat intro (zq:v _=_));intro bb hbb;subst hbb;have f0:=(Xq.trans hx).cell Nz.out;have f1:=(Xq.trans hx).cell Mw.out;have f2:=(Xq.trans hx).cell fy.out;have f3:=(Xq.trans hx).cell G6.out;have f4:=(Xq.trans hx).cell r8.out;intro K hK;go_simp;exact hK _ _ (Ext.refl _) rfl
              case g8=>
               intro v w1 hx;(repeat intro (zq:v _=_));intro bb hbb;subst hbb;intro K hK;go_simp;refine Q0e (Kk.out w1 (Xq.trans hx)) ?_;rintro e w2 ⟨rfl,Nq⟩;exact ⟨_,rfl,hK _ _ Nq rfl⟩
              case post =>
               intro v w1 hx;(iterate 9 intro (zq:v _=_));simp only [Flow.All,Flow.acts,Act.put];go_simp;have s2:w1.cell? ⟨gs,2,none⟩=some (.slice (some ⟨bm,off,none⟩) j Vq):=(KJ.out.ext (Xq.trans hx)).cell 2;have sw:=(Xq.trans hx).cell Mw.out;have uj:=hid (yX.out.trans (Xq.trans hx));clear hx Xq;(repeat clear zq);cases kp with
               | true =>
                 gi_wp2
                 go_roundw
                 case rel=>exact ⟨jj + 1,by omega,by go_num,by rw [Fj.out]; rfl,uj.out⟩
                 case measure=>simp [intOf]; omega
               | false =>
                 gi_wp2
                 go_roundw
                 case rel=>exact ⟨jj + 1,by omega,by go_num,by rw [Fj.out]; simp,uj.out⟩
                 case measure=>simp [intOf]; omega
            . have M8:¬ (jj:Int) < N:=by omega
              have U7:jj=N:=by omega
              subst U7;have Ax:=Y7c s ml c;rw [rc.out] at Ax;rw [Ax];have OX:=gh.out c;have gY:=Y8j s ml c;have xX:=hid (EQ.out.ext S9);have yX:=hid S9;have c25:wr.cell? ⟨gg,1,none⟩=some (.int .i64 (Z7t s ml c)):=xX.out.cell 1;have f25:=xX.out.frozen 1;obtain ⟨gj,ah⟩:∃ x,Z7t s ml c=x:=⟨_,rfl⟩;obtain ⟨kn,rj⟩:∃ x,Y2p s ml c=x:=⟨_,rfl⟩;rw [ah] at c25 gY OX xX;rw [rj] at gY ⊢;have Vd:=hid gY;clear Ax ah rj gY S9 Kz
              gi_wp2
              all_goals (exact ⟨(X8j yX.out).trans (KeepsOthers.setCell _ _ _),(Q3u _ _ _ _ (by show ge ≠ gg; have:=uV.out; omega)).trans (Below.block yX.out _ (by have:=V4.out.size; have:=d7.out.size; omega)),
               by first | (rw [Vd.out]; exact xX.out.set 1 (.int .i64 (max gj kn))) | (rw [Vd.out,show max gj kn=gj from by omega]; exact xX.out.set 1 (.int .i64 gj)) | (rw [Vd.out,show max gj kn=kn from by omega]; exact xX.out.set 1 (.int .i64 kn)),
               (Below.trans V4.out (yX.out.mono (by have:=EQ.out.lt; omega))).setCell (p:=⟨gg,1,none⟩) (Nat.le_refl _) _,(Q8.out.ext yX.out).keeps (KeepsOthers.setCell _ _ _)⟩)
        . have hne:((h0:Int) != (k:Int))=true:=by
           have:¬ h0=k:=fun e=>RJ (by rw [i7,e]; simp)
           simp; omega
          have Zi:=hid (Z8g (s:=s) (k:=k) (by simpa using RJ))
          clear RJ i7;go_wp2;obtain ⟨gl,ho,hm,Qw⟩:=HG.out.own;exact HK.out _ _ Ds Uq (by kernel_rfl) rfl ⟨rfl,⟨by rw [HN.out]; omega,⟨gl,ho.below Lq.out,by rw [hm,Zi.out],Qw.ext Lq.out⟩,by rw [Zi.out]; rfl,HG.out.marked.ext Lq.out,HG.out.low,HG.out.ext.trans Lq.out⟩⟩
 . have zj:¬ (k:Int) < n:=by omega
   have rj:k=n:=by omega
   subst rj
   gi_wp2_with fail
   obtain ⟨gl,ho,hm,Qw⟩:=HG.out.own;have mq:Q6k s k=Q6o s:=by rw [<- HN.out]; exact Z7a s
   rw [mq] at hm ⊢;have Zq:Ext w wA:=Rq.out.trans HG.out.ext;change LeavesInM Fence.wide 9 prog Tryz.f110 _ _ (marks Ds) _ _;refine Q6f (n0:=w0.heap.size) (fun W=>Q1d W w0.heap.size 64 2 Y4x vo gl /\ GrR W gl /\ Ext w W) (fun A B h ht=>⟨ht.K0u h.1,fun q hq=>ht.own (h.2.1 q hq),Below.trans h.2.2 (ht.below Rq.out.size)⟩) ?_ Ds _ HG.out.marked HG.out.low ⟨ho,Qw,Zq⟩;rintro W ⟨cQ,Mf,aq⟩;exact ⟨_,results_tmp2 rfl _ _ _,vo,rfl,by rw [<- hm]; exact Z9p cQ Mf (by rw [<- List.length_map (f:=(·.2)),hm]; have:=Z1h s; have:=HV.out.some; omega) (fun q hq=>by
    have h:q.2 ∈ Q6o s:=by rw [<- hm]; exact List.mem_map_of_mem hq
    have:=Y7f s _ h;have:=HV.out.some;omega),aq⟩
def Q9r (s:Q0b) (need:Int):Int:=Q0o [s.err,Q0j need 0 8000]
def Q9c (s:Q0b) (need:Int):Int:=if Q9r s need=0 then (if need <= Z3r s then 7 else 0) else Q9r s need
def X6h (s:Q0b) (need:Int):List Grp:=if Q9c s need=0 then Q6o s else []
theorem Y6k {s:Q0b} {need:Int} (h:Q9r s need=0):s.err=0:=by
 unfold Q9r Q0o at h
 by_cases he:s.err=0
 . exact he
 . rw [if_neg he] at h; exact absurd h he
theorem Z3u (w:World):Q5s w (.slice none 0 0) []:=Go.Tw.Rows.nil _ _ _
theorem Z1n (w:World) (v:Value) (s:Q0b) (need:Int) (hv:Q0i w v s) (hs:Q2r s) :
    Calls prog 39 #[v,.int .i64 need] w fun e w'=>∃ x,e=.returned (.tuple #[x,.int .i64 (Q9c s need)]) /\ Q5s w' x (X6h s need) /\ Ext w w':=by
 obtain ⟨a,b,rfl,h2⟩:=hv;obtain ⟨A,Tq,rfl,-,-,-⟩:=h2.ships.opened;obtain ⟨B,Vq,rfl,-,-,-⟩:=h2.members.opened;have H2:=hid h2;have HS:=hid hs;clear h2 hs;go_enter func39,ntmps39;go_wp2_with fail;change Calls _ _ _ (w.alloc (.cells #[.int .i64 s.limit,.slice A s.ships.length Tq,.slice B s.members.length Vq] 34)) _;obtain ⟨W,Mq,k0,Rq,eW⟩:=Q2q w 34 #[.int .i64 s.limit,.slice A s.ships.length Tq,.slice B s.members.length Vq];rw [Mq];clear Mq;have K0:=hid k0;obtain ⟨gs,Rj⟩:∃ z,w.heap.size=z:=⟨_,rfl⟩;rw [Rj] at K0 eW ⊢;clear k0 Rj;refine (Q2k _ _ s ⟨_,_,rfl,H2.out.ext Rq.out⟩ HS.out).mono ?_;rintro e w5 ⟨rfl,yq⟩;have Pj:=hid yq;have Yw:Hid (Q9r s need=Q0o [s.err,Q0j need 0 8000]):=hid rfl;obtain ⟨E,hE⟩:∃ E,s.err=E:=⟨_,rfl⟩;have HE:=hid hE;rw [hE] at Yw ⊢;have ek:=hid (X4v w5 need);obtain ⟨R,hR⟩:∃ R,Q0j need 0 8000=R:=⟨_,rfl⟩;rw [hR] at Yw ek;have r6:=hid (first_any (w5.alloc (.cells #[.int .i64 E,.int .i64 R] 29)) _ [E,R] (Q3d (by simp)))
 rw [<- Yw.out] at r6;have HZ:=hid (fun h=>HE.out.symm.trans (Y6k (s:=s) (need:=need) h));have sx:Hid (Q9c s need=if Q9r s need=0 then (if need <= Z3r s then 7 else 0) else Q9r s need):=hid rfl
 have vX:Hid (X6h s need=if Q9c s need=0 then Q6o s else []):=hid rfl
 obtain ⟨F,GX⟩:∃ F,Q9r s need=F:=⟨_,rfl⟩;rw [GX] at r6 HZ sx;clear yq hE hR GX
 by_cases hf:F=0
 . have hne:(F != 0)=false:=by simp [hf]
   have hV:Q0r s:=Q0r.of (HE.out.trans (HZ.out hf));rw [if_pos hf] at sx;have Mj:=Pj.out.trans (Ext.box w5 (.cells #[.int .i64 E,.int .i64 R] 29));have gQ:=K0.out.ext Mj;have zX:=hid (Z1r (w5.alloc (.cells #[.int .i64 E,.int .i64 R] 29)) _ s ⟨_,_,rfl,H2.out.ext (Rq.out.trans Mj)⟩ hV);have bj:=hid (Rq.out.trans Mj);obtain ⟨bd,Sk⟩:∃ x,Z3r s=x:=⟨_,rfl⟩;rw [Sk] at sx zX;clear Mj hV Sk;have c0:=(gQ).cell 0;have c1:=(gQ).cell 1;have c2:=(gQ).cell 2;simp only [Go.Tw.gA,Go.Tw.gB,Go.Tw.gC] at c0 c1 c2;clear gQ;go_wp2_with (first | (go_at_call 97; refine ek.out.mono ?_; rintro e w6 ⟨rfl,rfl⟩) | (go_at_call 96; refine r6.out.mono ?_; rintro e w7 ⟨rfl,rfl⟩) | (go_at_call 110; refine zX.out.mono ?_; rintro e w8 ⟨x,rfl,h1,h2⟩; refine halted ?_))
   have HI:=hid h1;have uw:=hid (bj.out.trans h2);clear h1 h2 c0 c1 c2;unfold Q1o
   by_cases hb:need <= bd
   . have Zz:Q9c s need=7:=by rw [sx.out,if_pos hb]
     have Q9:X6h s need=[]:=by rw [vX.out,Zz]; rfl
     have HA:=hid Zz;have HB:=hid Q9;clear sx vX Zz Q9;go_wp2;refine bodyPost_ret (results_tmp2 results39 _ _ _) rfl ?_;exact ⟨_,by rw [HA.out]; rfl,by rw [HB.out]; exact Z3u _,uw.out⟩
   . have Zz:Q9c s need=0:=by rw [sx.out,if_neg hb]
     have Q9:X6h s need=Q6o s:=by rw [vX.out,Zz]; rfl
     have HA:=hid Zz;have HB:=hid Q9;clear sx vX Zz Q9;go_wp2;refine bodyPost_ret (results_tmp2 results39 _ _ _) rfl ?_;exact ⟨_,by rw [HA.out]; rfl,by rw [HB.out]; exact HI.out,uw.out⟩
 . have hne:(F != 0)=true:=by simp [hf]
   have Zz:Q9c s need=F:=by rw [sx.out,if_neg hf]
   have Q9:X6h s need=[]:=by rw [vX.out,Zz,if_neg hf]
   have HA:=hid Zz;have HB:=hid Q9;have bj:=hid (Rq.out.trans (Pj.out.trans (Ext.box w5 (.cells #[.int .i64 E,.int .i64 R] 29))));clear sx vX Zz Q9 hf;go_wp2_with (first | (go_at_call 97; refine ek.out.mono ?_; rintro e w6 ⟨rfl,rfl⟩) | (go_at_call 96; refine r6.out.mono ?_; rintro e w7 ⟨rfl,rfl⟩))
   refine bodyPost_ret (results_tmp2 results39 _ _ _) rfl ?_;exact ⟨_,by rw [HA.out]; rfl,by rw [HB.out]; exact Z3u _,bj.out⟩
end Go.Proofs
namespace Go.Tw
set_option maxRecDepth 100000
theorem J4m:Q0w.err=0:=by decide
theorem J5u:Q0w.hist=[[0],[0,0],[0,1]]:=by decide
end Go.Tw
namespace Go.Proofs
open Go.RowKit Go.Tw Go.Flow Tryz
set_option maxRecDepth 100000
def rlA:List Rul:=X3h false true false
def rlB:List Rul:=X3h true true false
def J1b:ByteArray:=⟨#[48,32,111,112,101,110,10,48,32,48,32,99,108,111,115,101,10,48,32,49,32,111,112,101,110,10]⟩
theorem Q2l:Q2r Q0w:=⟨by decide,by decide,fun i hi=>by
 have:i=0 ∨ i=1 ∨ i=2:=by simp [Q0w] at hi; omega
 rcases this with rfl | rfl | rfl <;> exact ⟨by decide,by decide,by decide,by decide⟩⟩
theorem Y6n:Q2r Q7n:=⟨by decide,by decide,fun i hi=>by
 have:i=0:=by simp [Q7n] at hi; omega
 subst this; exact ⟨by decide,by decide,by decide,by decide⟩⟩
theorem X5g:Q0w.hist.length <= 9:=by rw [J5u]; decide
theorem J7t:J3k Q0w=[[0],[0,0],[0,1]]:=by kernel_rfl
theorem Z9k:Q1k Q0w rlA=0:=by kernel_rfl
theorem J4v:Q1k Q0w rlB=0:=by kernel_rfl
theorem J6q:Q6t Q0w rlA 0=0:=by kernel_rfl
theorem J5e:Y6s Q0w rlA 0=[false,true]:=by kernel_rfl
theorem J5z:Y9m Q0w rlA 0=[20,10]:=by kernel_rfl
theorem J8s:Z1p Q0w rlA=[0,2]:=by kernel_rfl
theorem J3i:X5l Q0w rlA=⟨3,4⟩:=by kernel_rfl
theorem J8k:X0h Q0w rlA=2:=by kernel_rfl
theorem J7i:Y9e Q0w rlB=34:=by kernel_rfl
theorem J9k:J2n Q0w=4:=by kernel_rfl
theorem K0x:Y5x Q0w 4=(6,34,0):=by kernel_rfl
theorem J9x:Y8l Q0w 4=rlB:=by kernel_rfl
theorem K0z:Y5x Q0w 3=(2,14,0):=by kernel_rfl
theorem K0k:Y3c Q0w 0=[false,true]:=by kernel_rfl
theorem J9r:Y9w Q0w 0=0:=by kernel_rfl
theorem K0e:Y4d Q0w rlB=3:=by kernel_rfl
theorem J9g:Q9c Q0w 5=0:=by kernel_rfl
theorem J8h:X6h Q0w 5=[⟨[0],2⟩,⟨[1,2],2⟩]:=by kernel_rfl
theorem J9s:Q9u Q7n 0=1:=by kernel_rfl
theorem J9v:Q9x Q7n 0=0:=by kernel_rfl
theorem J9w:Q7t rlA=0:=by kernel_rfl
theorem J9q:Z4d rlA=J1b:=by kernel_rfl
theorem J8c (w:World) (u:Value) (hu:Q0i w u Q0w) :
    Calls prog 42 #[u] w fun e w'=>∃ x,e=.returned (.tuple #[x,.int .i64 0]) /\ Q3z w' x [[0],[0,0],[0,1]] /\ Ext w w':=by
 have h:=Y1i w u Q0w hu Q2l;rw [J4m,J7t] at h;exact h
theorem J9c (w:World) (u p:Value) (hu:Q0i w u Q0w) (hp:Q0l w p rlA) :
    Calls prog 57 #[u,p,.int .i64 0] w fun e w'=>∃ x y,e=.returned (.tuple #[.agg #[x,y],.int .i64 0]) /\ Q1v w' x [false,true] /\ Q0g w' y [20,10] /\ Ext w w':=by
 refine (J0g w u p Q0w rlA 0 hu hp Q2l (by decide)).mono ?_
 rintro e w' ⟨⟨x,y,rfl,h1,h2⟩,hx⟩;rw [J5e] at h1;rw [J5z] at h2;exact ⟨x,y,by rw [J6q],h1,h2,hx⟩
theorem J7q (w:World) (u p:Value) (hu:Q0i w u Q0w) (hp:Q0l w p rlA) :
    Calls prog 33 #[u,p] w fun e w'=>∃ x,e=.returned (.tuple #[x,.int .i64 0]) /\ Q0g w' x [0,2] /\ Ext w w':=by
 have h:=X3z w u p Q0w rlA hu hp Q2l (by decide)
 rw [Z9k,J8s] at h;exact h
theorem J3w (w:World) (u p:Value) (hu:Q0i w u Q0w) (hp:Q0l w p rlA) :
    Calls prog 64 #[u,p] w fun e w'=>e=.returned (.tuple #[.agg #[.int .i64 3,.int .i64 4],.int .i64 0]) /\ Ext w w':=by
 have h:=X7e w u p Q0w rlA hu hp Q2l (by decide)
 rw [Z9k,J3i] at h;exact h
theorem J9i (w:World) (u p:Value) (hu:Q0i w u Q0w) (hp:Q0l w p rlA) :
    Calls prog 37 #[u,p] w fun e w'=>e=.returned (.tuple #[.int .i64 2,.int .i64 0]) /\ Ext w w':=by
 have h:=X4g w u p Q0w rlA hu hp Q2l (by decide)
 rw [Z9k,J8k] at h;exact h
theorem J5l (w:World) (u p:Value) (hu:Q0i w u Q0w) (hp:Q0l w p rlB) :
    Calls prog 38 #[u,p] w fun e w'=>e=.returned (.tuple #[.int .i64 34,.int .i64 0]) /\ Ext w w':=by
 have h:=Y3s w u p Q0w rlB hu hp Q2l (by decide)
 rw [J4v,J7i] at h;exact h
theorem J7z (w:World) (u:Value) (hu:Q0i w u Q0w) :
    Calls prog 19 #[u] w fun e w'=>e=.returned (.tuple #[.int .i64 4,.int .i64 0]) /\ Ext w w':=by
 have h:=J1k w u Q0w hu Q2l X5g;rw [J4m,J9k] at h;exact h
theorem J5w (w:World) (u:Value) (hu:Q0i w u Q0w) :
    Calls prog 21 #[u,.int .i64 4] w fun e w'=>∃ x,e=.returned (.tuple #[.agg #[x],.int .i64 6,.int .i64 34,.int .i64 0]) /\ Q1j w' x rlB /\ Ext w w':=by
 refine (Y7i w u Q0w 4 hu Q2l X5g).mono ?_;rintro e w' ⟨⟨x,rfl,h1⟩,hx⟩;exact ⟨x,by rw [K0x],by rw [J9x] at h1; exact h1,hx⟩
theorem J6i (w:World) (u:Value) (hu:Q0i w u Q0w) :
    Calls prog 21 #[u,.int .i64 3] w fun e w'=>∃ x,e=.returned (.tuple #[.agg #[x],.int .i64 2,.int .i64 14,.int .i64 0]) /\ Q1j w' x (Y8l Q0w 3) /\ Ext w w':=by
 refine (Y7i w u Q0w 3 hu Q2l X5g).mono ?_;rintro e w' ⟨⟨x,rfl,h1⟩,hx⟩;exact ⟨x,by rw [K0z],by exact h1,hx⟩
theorem J5q (w:World) (u:Value) (hu:Q0i w u Q0w) :
    Calls prog 50 #[u,.int .i64 0] w fun e w'=>∃ x,e=.returned (.tuple #[x,.int .i64 1,.int .i64 0]) /\ Q1v w' x [false,true] /\ Ext w w':=by
 have h:=Z6t w u Q0w 0 hu Q2l;rw [K0k,J9r] at h;exact h
theorem J4b (w:World) (u p:Value) (hu:Q0i w u Q0w) (hp:Q0l w p rlB) :
    Calls prog 65 #[u,p] w fun e w'=>e=.returned (.tuple #[.int .i64 3,.int .i64 0]) /\ Ext w w':=by
 have h:=Z1g w u p Q0w rlB hu hp Q2l (by decide)
 rw [J4v,K0e] at h;exact h
theorem J2u (w:World) (u:Value) (hu:Q0i w u Q0w) :
    Calls prog 39 #[u,.int .i64 5] w fun e w'=>∃ x,e=.returned (.tuple #[x,.int .i64 0]) /\ Q5s w' x [⟨[0],2⟩,⟨[1,2],2⟩] /\ Ext w w':=by
 have h:=Z1n w u Q0w 5 hu Q2l;rw [J9g,J8h] at h;exact h
theorem J3o (w:World) (u:Value) (hu:Q0i w u Q7n) :
    Calls prog 41 #[u,.int .i64 0] w fun e w'=>e=.returned (.tuple #[.int .i64 1,.int .i64 0]) /\ Ext w w':=by
 have h:=Y0j w u Q7n 0 hu Y6n;rw [J9s,J9v] at h;exact h
theorem J6n (w:World) (p:Value) (hp:Q0l w p rlA) (hW:Words w) :
    Calls prog 81 #[p] w fun e w'=>e=.returned (.tuple #[.string J1b,.int .i64 0]) /\ Ext w w':=by
 have h:=Z6c w p rlA hp (by decide) hW
 rw [J9q,J9w] at h;exact h
theorem Y0u (w:World) (u v:Value) (l:List Int) (hu:Q0g w u l) (hv:Q0g w v l) :
    Calls prog 54 #[u,v] w fun e w'=>e=.returned (.bool true) /\ Ext w w':=by
 have h:=Q2s w u v _ _ hu hv;rw [decide_eq_true rfl] at h;exact h
theorem J1t (w:World) (u v:Value) (l:List Bool) (hu:Q1v w u l) (hv:Q1v w v l) :
    Calls prog 55 #[u,v] w fun e w'=>e=.returned (.bool true) /\ Ext w w':=by
 have h:=Y5c w u v _ _ hu hv;rw [decide_eq_true rfl] at h;exact h
theorem J6p (w:World) (u v:Value) (l:List Rul) (hu:Q0l w u l) (hv:Q0l w v l) :
    Calls prog 48 #[u,v] w fun e w'=>e=.returned (.bool true) /\ Ext w w':=by
 have h:=Y2h w u v _ _ hu hv;rw [show X9s l l=true from decide_eq_true rfl] at h
 exact h
theorem J5t (w:World) (u v:Value) (l:List Grp) (hu:Q5s w u l) (hv:Q5s w v l) :
    Calls prog 74 #[u,v] w fun e w'=>e=.returned (.bool true) /\ Ext w w':=by
 have h:=Y1r w u v _ _ hu hv;rw [show Y0l l l=true from decide_eq_true rfl] at h
 exact h
theorem Y7o {w:World} {g:Nat} {T:TypeId} {cs:Array Value} {l:List Bool} {n:Nat} (h:Blk w g T cs) (hc:cs=(l.map Value.bool).toArray) (hl:l.length=n) (hn:n <= 1000):Q1v w (.slice (some ⟨g,0,none⟩) n n) l:=by
 subst hc;refine X5h (k:=1) h hl hn (by simp [hl]) fun i hi=>?_
 show (List.map Value.bool l).toArray.getD (i * 1 + 0) undef=_;simp [hi]
theorem Y5i (w:World):(binOp .neq 107 (.agg #[.int .i64 3,.int .i64 4]) (.agg #[.int .i64 3,.int .i64 4])).run prog w=.ok (.bool false) w:=by kernel_rfl
theorem Z6v:J1b.toList=[48,32,111,112,101,110,10,48,32,48,32,99,108,111,115,101,10,48,32,49,32,111,112,101,110,10]:=by simp [J1b,go_sem]
theorem J4z:(J1b.toList == [48,32,111,112,101,110,10,48,32,48,32,99,108,111,115,101,10,48,32,49,32,111,112,101,110,10])=true:=by rw [Z6v]; decide
end Go.Proofs
