/- Part of a proof. -/
import Derived.Test.YthnobngcipaljaaGreatDoorPg10
set_option maxRecDepth 1000000
set_option maxHeartbeats 64000000
set_option linter.unusedVariables false
set_option linter.unusedSimpArgs false
set_option linter.constructorNameAsVariable false
open Go.Lib (hid)
namespace Go.Proofs
open Go.RowKit Go.Tw Go.Flow Tryz
attribute [local go_sem] Oper.semAt_some
theorem fzb11 {a b:Nat} (h:a < b:=by rw [hbb]; simp only [Flow.size_put]; show _ < 50; decide):a < b:=h
theorem fzc11 {u:Type} {a b:u} (h:a=b:=by rw [hbb]; dsimp only; (try simp (discharger:=decide) only [Flow.eval_put_ne]); rw [Flow.Q0a (by simp only [Flow.size_put]; show _ < 50; decide)]; assumption):a=b:=h
theorem fze11 {u:Type} {a b:u} (h:a=b:=by rw [hbb]; dsimp only; (try simp (discharger:=decide) only [Flow.eval_put_ne]); rfl):a=b:=h
theorem J8j (w:World) (u v:Value) (a b:List Int) (x y:Int) (hu:Q0e w u a) (hv:Q0e w v b) :
    Calls prog 142 #[.agg #[u,.int .i64 x],.agg #[v,.int .i64 y]] w fun e w'=>e=.returned (.bool (decide ((a,x)=(b,y)))) /\ Ext w w':=by
 obtain ⟨X,c,rfl,-,-,-⟩:=hu.opened;obtain ⟨Y,d,rfl,-,-,-⟩:=hv.opened;have HU:=hid hu;have HV:=hid hv;obtain ⟨n,hn⟩:∃ z,a.length=z:=⟨_,rfl⟩;obtain ⟨m,hm⟩:∃ z,b.length=z:=⟨_,rfl⟩;rw [hn] at HU ⊢;rw [hm] at HV ⊢;clear hu hv hn hm
 by_cases jQ:x=y
 . subst jQ
   have hb:(x == x)=true:=by simp
   have HR:Hid (decide ((a,x)=(b,x))=decide (a=b)):=hid (by simp)
   go_enter func142,ntmps142;go_wp2_with fail;change Calls _ _ _ ((w.alloc (.cells #[.slice X n c,.int .i64 x] 64)).alloc (.cells #[.slice Y m d,.int .i64 x] 64)) _;obtain ⟨W,Nq,k0,k1,Sq,eW⟩:=Q3p w 64 #[.slice X n c,.int .i64 x] 64 #[.slice Y m d,.int .i64 x];rw [Nq];clear Nq;clear k0 k1;refine (Y4y _ _ _ a b (HU.out.ext Sq.out) (HV.out.ext Sq.out)).mono ?_;rintro e w' ⟨rfl,hx⟩;rw [<- HR.out];obtain ⟨q,hq⟩:∃ z,decide ((a,x)=(b,x))=z:=⟨_,rfl⟩;rw [hq];have HX:=hid (Sq.out.trans hx);have HQ:=hid hq;clear hx hq Sq eW;go_wp2;go_ret;exact ⟨by rw [HQ.out] <;> rfl,HX.out⟩
 . have hb:(x == y)=false:=by simp [jQ]
   have HR:Hid (decide ((a,x)=(b,y))=false):=hid (by simp [jQ])
   rw [HR.out];go_enter func142,ntmps142;go_wp2;go_ret;exact ⟨rfl,(Ext.box _ _).trans (Ext.box _ _)⟩
theorem Z0n (w:World) (u v:Value) (p q:List Grp) (hu:Q1q w u p) (hv:Q1q w v q) :
    Calls prog 144 #[u,v,.func (.func 142) #[] #[]] w fun e w'=>e=.returned (.bool (Q4w p q)) /\ Ext w w':=by
 obtain ⟨A,ca,rfl,Ov,-,hc⟩:=hu.opened;obtain ⟨B,cb,rfl,Nv,-,hd⟩:=hv.opened;have HC:=hid hc;have HD:=hid hd;obtain ⟨n,hn⟩:∃ n,p.length=n:=⟨_,rfl⟩;obtain ⟨m,hm⟩:∃ n,q.length=n:=⟨_,rfl⟩;have HN:=hid hn;have HM:=hid hm;rw [hn] at Ov HC ⊢;rw [hm] at Nv HD ⊢;clear hu hv hc hd hn hm;go_enter func144,ntmps144
 by_cases vj:n=m
 . have hI:((n:Int) != (m:Int))=false:=by simp [vj]
   subst vj;go_wp2_with fail
   go_loopw [17] (fun i wr=>∃ k:Nat,k <= n /\ i=.int .i64 k /\ (∀ j,j < k -> Z1r (p.getD j default)=Z1r (q.getD j default)) /\ Ext w wr) (fun i _=>n - (intOf i).toNat)
   case atStart=>exact ⟨0,Nat.zero_le _,rfl,fun j h=>absurd h (Nat.not_lt_zero _),Ext.refl _⟩
   case round =>
    obtain ⟨k,hk,rfl,fw,Dq⟩:=hrel;have C2:=hid fw
    by_cases Tq:k < n
    . have Lj:(k:Int) < n:=by omega
      obtain ⟨b1,o1,x,rfl,-,e0,e1,Wk⟩:=HC.out k Tq;obtain ⟨b2,o2,y,rfl,-,f0,f1,Xz⟩:=HD.out k Tq;replace e0:=Dq.cell e0;replace e1:=Dq.cell e1;obtain ⟨X,Rq,rfl,-,-,-⟩:=Wk.opened;obtain ⟨Y,Jq,rfl,-,-,-⟩:=Xz.opened;have Oj:k < p.length:=by rw [HN.out]; exact Tq
      have Dw:k < q.length:=by rw [HM.out]; exact Tq
      have Zk:=hid (fun h=>X8z (f:=Z1r) Oj Dw h);have D0:∀ (z:List Grp) j,Z1r (z.getD j default)=(Q1w z j,Q3n z j):=fun z j=>rfl;rw [D0,D0] at Zk;have Y4:=hid D0;obtain ⟨cp,yk⟩:∃ c,Q1w p k=c:=⟨_,rfl⟩;obtain ⟨cq,Cw⟩:∃ c,Q1w q k=c:=⟨_,rfl⟩;obtain ⟨sp,bw⟩:∃ c,Q3n p k=c:=⟨_,rfl⟩;obtain ⟨sq,C0⟩:∃ c,Q3n q k=c:=⟨_,rfl⟩;rw [yk,Cw,bw,C0] at Zk;rw [yk] at e0 Wk;rw [Cw] at f0 Xz;rw [bw] at e1;rw [C0] at f1;have j5:=hid yk;have i9:=hid Cw;have Bw:=hid bw;have aK:=hid C0;obtain ⟨na,jW⟩:∃ z,cp.length=z:=⟨_,rfl⟩;obtain ⟨nb,hnb⟩:∃ z,cq.length=z:=⟨_,rfl⟩;rw [jW] at e0 Wk;rw [hnb] at f0 Xz;have pj:=Ext.box wr (.cells #[.slice X na Rq,.int .i64 sp] 64);have Tp:=(Dq.trans pj).cell f0;have Sp:=(Dq.trans pj).cell f1;obtain ⟨wq,rfl⟩:∃ Z,Z=wr:=⟨_,rfl⟩;have qj:=Blk.made wq 64 #[.slice X na Rq,.int .i64 sp];have f8:=Ext.box (wq.alloc (.cells #[.slice X na Rq,.int .i64 sp] 64)) (.cells #[.slice Y nb Jq,.int .i64 sq] 64);have c0:=(qj.ext f8).cell 0;have c1:=(qj.ext f8).cell 1;have Mg:=Blk.made (wq.alloc (.cells #[.slice X na Rq,.int .i64 sp] 64)) 64 #[.slice Y nb Jq,.int .i64 sq];have d0:=Mg.cell 0;have d1:=Mg.cell 1;simp only [Go.Tw.gA,Go.Tw.gB,Go.Tw.gC] at c0 c1 d0 d1;have Ox:=hid (Dq.trans (pj.trans f8));have F7:=hid (Wk.ext Ox.out);have MY:=hid (Xz.ext Ox.out);obtain ⟨d,hd⟩:∃ z,decide ((cp,sp)=(cq,sq))=z:=⟨_,rfl⟩;have o0:=hid hd;clear fw Dq Wk Xz yk Cw bw C0 D0 Oj Dw f0 f1 hd jW hnb pj f8 qj Mg;go_wp2_with fail;refine (J8j _ _ _ cp cq sp sq F7.out MY.out).mono ?_;rintro e w5 ⟨rfl,Cq⟩;rw [o0.out];have vq:=hid (Ox.out.trans Cq);clear c0 c1 d0 d1 e0 e1 Tp Sp Cq;cases d with
      | true =>
        go_wp2;go_roundw
        case rel=>exact ⟨k + 1,by omega,by go_num,(fun j hj=>by
         by_cases h:j < k
         . exact C2.out j h
         . obtain rfl:j=k:=by omega
           rw [Y4.out,Y4.out,j5.out,i9.out,Bw.out,aK.out];exact of_decide_eq_true o0.out),vq.out⟩
        case measure=>simp [intOf]; omega
      | false =>
        have HR:Hid (Q4w p q=false):=hid (decide_eq_false (Zk.out (of_decide_eq_false o0.out)));go_wp2;go_ret;exact ⟨by rw [HR.out]; rfl,vq.out⟩
    . have Lj:¬ (k:Int) < n:=by omega
      have nj:k=n:=by omega
      have hr:Q4w p q=true:=decide_eq_true (Y0f (by rw [HN.out,HM.out]) (by rw [HN.out,<- nj]; exact fw))
      have HR:=hid hr;clear fw hr;go_wp2;go_ret;exact ⟨by rw [HR.out]; rfl,Dq⟩
 . have hI:((n:Int) != (m:Int))=true:=by simp; omega
   have hr:Q4w p q=false:=decide_eq_false fun h=>vj (by have:=congrArg List.length h; simpa [HN.out,HM.out] using this)
   have HR:=hid hr;clear vj hr;go_wp2;go_ret;exact ⟨by rw [HR.out]; rfl,Ext.refl _⟩
theorem X5f (s:Q0b) (need:Int) (l:List Grp):Q6c s need l=(if Q0h [s.err,Q0f need 0 8000]=0 then Q0u (!Q4w l (Q1k s) || decide (need <= Q4u s)) 22 else Q0h [s.err,Q0f need 0 8000]):=by
 unfold Q6c
 by_cases h0:s.err=0
 . rw [if_neg (fun h=>h h0),Q8v h0]
   by_cases h1:Q0f need 0 8000=0
   . rw [if_neg (fun h=>h h1),if_pos h1]
     unfold Q0u Q4w;have e:(l.map fun g=>(g.members,g.weight))=l.map Z1r:=rfl;have e2:((Q1k s).map fun g=>(g.members,g.weight))=(Q1k s).map Z1r:=rfl;rw [e,e2]
     by_cases h2:l.map Z1r=(Q1k s).map Z1r <;> by_cases h3:need <= Q4u s <;> simp [h2,h3]
   . rw [if_pos h1,if_neg h1]
     unfold Q0f at h1 ⊢
     split at h1
     . rename_i h; rw [if_pos h]
     . exact absurd rfl h1
 . rw [if_pos h0,X1h h0,if_neg h0]
theorem X5m (w:World) (v u:Value) (s:Q0b) (need:Int) (l:List Grp) (hv:Q0g w v s) (hu:Q1q w u l) (hs:Q3v s) :
    Calls prog 78 #[v,.int .i64 need,u] w fun e w'=>e=.returned (.int .i64 (Q6c s need l)) /\ Ext w w':=by
 obtain ⟨a,b,rfl,h2⟩:=hv;obtain ⟨A,Uq,rfl,-,-,-⟩:=h2.ships.opened;obtain ⟨B,Wq,rfl,-,-,-⟩:=h2.members.opened;obtain ⟨L,ej,rfl,-,-,-⟩:=hu.opened;have H2:=hid h2;have HL:=hid hu;have HS:=hid hs;have qz:=hid (X5f s need l);obtain ⟨CE,SQ⟩:∃ z,Q6c s need l=z:=⟨_,rfl⟩;rw [SQ] at qz ⊢;obtain ⟨NL,qv⟩:∃ z,l.length=z:=⟨_,rfl⟩;rw [qv] at HL ⊢;obtain ⟨e0,M5⟩:∃ z,s.err=z:=⟨_,rfl⟩;obtain ⟨r0,fz⟩:∃ z,Q0f need 0 8000=z:=⟨_,rfl⟩;obtain ⟨E1,P3⟩:∃ z,Q0h [e0,r0]=z:=⟨_,rfl⟩;have Fx:=hid M5;have M6:=hid fz;have Vk:=hid P3;rw [M5,fz,P3] at qz;clear h2 hu hs SQ qv M5 fz P3;go_enter func78,ntmps78;go_wp2_with fail;change Calls _ _ _ (w.alloc (.cells #[.int .i64 s.limit,.slice A s.ships.length Uq,.slice B s.members.length Wq] 34)) _;obtain ⟨W,Nq,k0,Sq,eW⟩:=Q1y w 34 #[.int .i64 s.limit,.slice A s.ships.length Uq,.slice B s.members.length Wq];rw [Nq];clear Nq;have Mz:Hid (∀ W',Ext W W' -> Q0g W' (.agg #[.int .i64 s.limit,.slice A s.ships.length Uq,.slice B s.members.length Wq]) s):=hid (fun W' hW=>⟨_,_,rfl,H2.out.ext (Sq.out.trans hW)⟩);have K0:=hid k0;clear k0;refine (Q1x _ _ s (Mz.out _ (Ext.refl _)) HS.out).mono ?_;rintro e w5 ⟨rfl,Cq⟩;rw [Fx.out];have vq:=hid Cq;clear Cq;go_wp2_with fail;refine (Q7c _ need).mono ?_;rintro e w6 ⟨rfl,rfl⟩;rw [M6.out];go_wp2_with fail;refine (first_any _ _ [e0,r0] (Q1v (by simp))).mono ?_
 rw [Vk.out];rintro e w7 ⟨rfl,rfl⟩;have pz:=hid (vq.out.trans (Ext.box w5 (.cells (List.map (Value.int .i64) [e0,r0]).toArray 29)));obtain ⟨w7,eV⟩:∃ Z,w5.alloc (.cells (List.map (Value.int .i64) [e0,r0]).toArray 29)=Z:=⟨_,rfl⟩;rw [eV] at pz ⊢;clear eV
 by_cases hz:E1=0
 . obtain ⟨mq,iq⟩:=Q1n (Vk.out.trans hz)
   have HV:=hid (Q0w.of (Fx.out.trans mq));have hne:(E1 != 0)=false:=by simp [hz]
   rw [if_pos hz] at qz;have c0:=(K0.out.ext pz.out).cell 0;have c1:=(K0.out.ext pz.out).cell 1;have c2:=(K0.out.ext pz.out).cell 2;simp only [Go.Tw.gA,Go.Tw.gB,Go.Tw.gC] at c0 c1 c2;clear hz mq iq;go_wp2_with fail;refine (Y1r _ _ s (Mz.out _ pz.out) HV.out).mono ?_;rintro e w8 ⟨xg,rfl,hg,Oi⟩;obtain ⟨Xg,cg,rfl,-,-,-⟩:=hg.opened;obtain ⟨ng,Ni⟩:∃ z,(Q1k s).length=z:=⟨_,rfl⟩;rw [Ni] at hg ⊢;have HG:=hid hg;have Zv:=hid (pz.out.trans Oi);obtain ⟨bs,WQ⟩:∃ z,Q4u s=z:=⟨_,rfl⟩;rw [WQ] at qz ⊢;clear c0 c1 c2 hg Oi Ni WQ;go_wp2_with fail;refine (Z0n _ _ _ l (Q1k s) (HL.out.ext (Sq.out.trans Zv.out)) HG.out).mono ?_;rintro e w9 ⟨rfl,kx⟩;have ij:=hid (Zv.out.trans kx);obtain ⟨sg,UX⟩:∃ z,Q4w l (Q1k s)=z:=⟨_,rfl⟩;rw [UX] at qz ⊢;clear UX kx;cases sg with
   | false =>
     have HF:Hid (Q0u true 22=CE):=hid (by rw [qz.out]; rfl)
     go_wp2_with fail;refine (Q2s _ true 22).mono ?_;rintro e wb ⟨rfl,rfl⟩;rw [HF.out];go_wp2;go_ret;exact ⟨rfl,Sq.out.trans ij.out⟩
   | true =>
     by_cases hn:need <= bs
     . have Pv:decide (need <= bs)=true:=decide_eq_true hn
       have HF:Hid (Q0u true 22=CE):=hid (by rw [qz.out,Pv]; rfl)
       go_wp2_with fail;refine (Q2s _ true 22).mono ?_;rintro e wb ⟨rfl,rfl⟩;rw [HF.out];go_wp2;go_ret;exact ⟨rfl,Sq.out.trans ij.out⟩
     . have Pv:decide (need <= bs)=false:=decide_eq_false hn
       have HF:Hid (Q0u false 22=CE):=hid (by rw [qz.out,Pv]; rfl)
       go_wp2_with fail;refine (Q2s _ false 22).mono ?_;rintro e wb ⟨rfl,rfl⟩;rw [HF.out];go_wp2;go_ret;exact ⟨rfl,Sq.out.trans ij.out⟩
 . have hne:(E1 != 0)=true:=by simp [hz]
   rw [if_neg hz] at qz;clear hz;go_wp2;go_ret;exact ⟨by rw [qz.out] <;> rfl,Sq.out.trans pz.out⟩
def Q8y (s:Q0b) (need:Int):Int:=Q0h [s.err,Q0f need 0 8000]
def Q5w (s:Q0b) (need:Int):Int:=if Q8y s need=0 then (if need <= Q4u s then 7 else 0) else Q8y s need
def Q2w (s:Q0b) (need:Int):List Grp:=if Q5w s need=0 then Q1k s else []
theorem X6n {s:Q0b} {need:Int} (h:Q8y s need=0):s.err=0:=by
 unfold Q8y Q0h at h
 by_cases he:s.err=0
 . exact he
 . rw [if_neg he] at h; exact absurd h he
theorem Z5h (w:World):Q1q w (.slice none 0 0) []:=Go.Tw.Rows.nil _ _ _
theorem Y1u (w:World) (v:Value) (s:Q0b) (need:Int) (hv:Q0g w v s) (hs:Q3v s) :
    Calls prog 39 #[v,.int .i64 need] w fun e w'=>∃ x,e=.returned (.tuple #[x,.int .i64 (Q5w s need)]) /\ Q1q w' x (Q2w s need) /\ Ext w w':=by
 obtain ⟨a,b,rfl,h2⟩:=hv;obtain ⟨A,Uq,rfl,-,-,-⟩:=h2.ships.opened;obtain ⟨B,Wq,rfl,-,-,-⟩:=h2.members.opened;have H2:=hid h2;have HS:=hid hs;clear h2 hs;go_enter func39,ntmps39;go_wp2_with fail;change Calls _ _ _ (w.alloc (.cells #[.int .i64 s.limit,.slice A s.ships.length Uq,.slice B s.members.length Wq] 34)) _;obtain ⟨W,Nq,k0,Sq,eW⟩:=Q1y w 34 #[.int .i64 s.limit,.slice A s.ships.length Uq,.slice B s.members.length Wq];rw [Nq];clear Nq;have K0:=hid k0;obtain ⟨gs,bq⟩:∃ z,w.heap.size=z:=⟨_,rfl⟩;rw [bq] at K0 eW ⊢;clear k0 bq;refine (Q1x _ _ s ⟨_,_,rfl,H2.out.ext Sq.out⟩ HS.out).mono ?_;rintro e w5 ⟨rfl,Cq⟩;have rq:=hid Cq;have jw:Hid (Q8y s need=Q0h [s.err,Q0f need 0 8000]):=hid rfl;obtain ⟨E,hE⟩:∃ E,s.err=E:=⟨_,rfl⟩;have HE:=hid hE;rw [hE] at jw ⊢;have Zk:=hid (Q7c w5 need);obtain ⟨R,hR⟩:∃ R,Q0f need 0 8000=R:=⟨_,rfl⟩;rw [hR] at jw Zk;have Fw:=hid (first_any (w5.alloc (.cells #[.int .i64 E,.int .i64 R] 29)) _ [E,R] (Q1v (by simp)))
 rw [<- jw.out] at Fw;have HZ:=hid (fun h=>HE.out.symm.trans (X6n (s:=s) (need:=need) h));have Vv:Hid (Q5w s need=if Q8y s need=0 then (if need <= Q4u s then 7 else 0) else Q8y s need):=hid rfl
 have M4:Hid (Q2w s need=if Q5w s need=0 then Q1k s else []):=hid rfl
 obtain ⟨F,YZ⟩:∃ F,Q8y s need=F:=⟨_,rfl⟩;rw [YZ] at Fw HZ Vv;clear Cq hE hR YZ
 by_cases hf:F=0
 . have hne:(F != 0)=false:=by simp [hf]
   have hV:Q0w s:=Q0w.of (HE.out.trans (HZ.out hf));rw [if_pos hf] at Vv;have Kj:=rq.out.trans (Ext.box w5 (.cells #[.int .i64 E,.int .i64 R] 29));have pJ:=K0.out.ext Kj;have cY:=hid (Y1r (w5.alloc (.cells #[.int .i64 E,.int .i64 R] 29)) _ s ⟨_,_,rfl,H2.out.ext (Sq.out.trans Kj)⟩ hV);have Yx:=hid (Sq.out.trans Kj);obtain ⟨bd,Pz⟩:∃ x,Q4u s=x:=⟨_,rfl⟩;rw [Pz] at Vv cY;clear Kj hV Pz;have c0:=(pJ).cell 0;have c1:=(pJ).cell 1;have c2:=(pJ).cell 2;simp only [Go.Tw.gA,Go.Tw.gB,Go.Tw.gC] at c0 c1 c2;clear pJ;go_wp2_with (first | (go_at_call 97; refine Zk.out.mono ?_; rintro e w6 ⟨rfl,rfl⟩) | (go_at_call 96; refine Fw.out.mono ?_; rintro e w7 ⟨rfl,rfl⟩) | (go_at_call 110; refine cY.out.mono ?_; rintro e w8 ⟨x,rfl,h1,h2⟩; refine halted ?_))
   have HI:=hid h1;have Zv:=hid (Yx.out.trans h2);clear h1 h2 c0 c1 c2;unfold Q1o
   by_cases hb:need <= bd
   . have Wz:Q5w s need=7:=by rw [Vv.out,if_pos hb]
     have PQ:Q2w s need=[]:=by rw [M4.out,Wz]; rfl
     have HA:=hid Wz;have HB:=hid PQ;clear Vv M4 Wz PQ;go_wp2;refine bodyPost_ret (results_tmp2 results39 _ _ _) rfl ?_;exact ⟨_,by rw [HA.out]; rfl,by rw [HB.out]; exact Z5h _,Zv.out⟩
   . have Wz:Q5w s need=0:=by rw [Vv.out,if_neg hb]
     have PQ:Q2w s need=Q1k s:=by rw [M4.out,Wz]; rfl
     have HA:=hid Wz;have HB:=hid PQ;clear Vv M4 Wz PQ;go_wp2;refine bodyPost_ret (results_tmp2 results39 _ _ _) rfl ?_;exact ⟨_,by rw [HA.out]; rfl,by rw [HB.out]; exact HI.out,Zv.out⟩
 . have hne:(F != 0)=true:=by simp [hf]
   have Wz:Q5w s need=F:=by rw [Vv.out,if_neg hf]
   have PQ:Q2w s need=[]:=by rw [M4.out,Wz,if_neg hf]
   have HA:=hid Wz;have HB:=hid PQ;have Yx:=hid (Sq.out.trans (rq.out.trans (Ext.box w5 (.cells #[.int .i64 E,.int .i64 R] 29))));clear Vv M4 Wz PQ hf;go_wp2_with (first | (go_at_call 97; refine Zk.out.mono ?_; rintro e w6 ⟨rfl,rfl⟩) | (go_at_call 96; refine Fw.out.mono ?_; rintro e w7 ⟨rfl,rfl⟩))
   refine bodyPost_ret (results_tmp2 results39 _ _ _) rfl ?_;exact ⟨_,by rw [HA.out]; rfl,by rw [HB.out]; exact Z5h _,Yx.out⟩
def X6w (s:Q0b) (k:Nat):Int:=(((Q1k s).take k).map Grp.weight).sum
theorem Z6l (s:Q0b):X6w s 0=0:=rfl
theorem Y4x (s:Q0b) {k:Nat} (hk:k < (Q1k s).length):X6w s (k + 1)=X6w s k + Q3n (Q1k s) k:=by
 unfold X6w;rw [List.take_succ_eq_append_getElem hk,List.map_append,List.sum_append];simp [Q3n,hk]
theorem J1h (s:Q0b):X6w s (Q1k s).length=Q4u s:=by unfold X6w Q4u; rw [List.take_length]
theorem Z5c {s:Q0b} (hS:Q0w s) {k:Nat} (hk:k < (Q1k s).length):0 <= Q3n (Q1k s) k /\ Q3n (Q1k s) k <= 8000:=by
 have h8:=hS.some.2;have e:Q3n (Q1k s) k=(Q1k s)[k].weight:=by simp [Q3n,hk]
 have hm:(Q1k s)[k] ∈ Q1k s:=List.getElem_mem hk;rw [e];obtain ⟨z,hz⟩:∃ z,(Q1k s)[k]=z:=⟨_,rfl⟩;rw [hz] at hm ⊢;rw [Q9f] at hm;obtain ⟨l,hl,he⟩:=List.mem_map.1 hm;obtain ⟨-,h1,h2⟩:=Y0q _ _ _ hl;have:=Y5h hS h2 (by omega) (2 ^ s.ships.length)
 rw [<- he];exact this
theorem Z5u {s:Q0b} (hS:Q0w s):∀ k,k <= (Q1k s).length -> 0 <= X6w s k /\ X6w s k <= 8000 * k
 | 0,_=>by simp [X6w]
 | k + 1,h=>by
   have ih:=Z5u hS k (by omega)
   have hg:=Z5c hS (show k < (Q1k s).length by omega)
   rw [Y4x s (by omega)]; omega
theorem Y4q (w:World) (v:Value) (s:Q0b) (hv:Q0g w v s) (hS:Q0w s) :
    Calls prog 136 #[v] w fun e w'=>e=.returned (.int .i64 (Q4u s)) /\ Ext w w':=by
 obtain ⟨a,b,rfl,h2⟩:=hv;obtain ⟨A,Uq,rfl,-,-,-⟩:=h2.ships.opened;obtain ⟨B,Wq,rfl,-,-,-⟩:=h2.members.opened;have H2:=hid h2;have HV:=hid hS;obtain ⟨T,hT⟩:∃ T,s.ships.length=T:=⟨_,rfl⟩;obtain ⟨M,hM⟩:∃ M,s.members.length=M:=⟨_,rfl⟩;obtain ⟨lim,Uj⟩:∃ k,s.limit=k:=⟨_,rfl⟩;have Mj:Hid (∀ W,Q2t W (.slice A T Uq) (.slice B M Wq) s -> Q0g W (.agg #[.int .i64 lim,.slice A T Uq,.slice B M Wq]) s):=hid (fun W h=>⟨_,_,by rw [Uj],h⟩)
 rw [hT,hM] at H2;rw [hT,hM,Uj];have Lq:=hid (Ext.refl w);clear h2 hT hM Uj hS;go_enter func136,ntmps136;go_wp2_with fail;change Calls _ _ _ (w.alloc (.cells #[.int .i64 lim,.slice A T Uq,.slice B M Wq] 25)) _;obtain ⟨W,Nq,k0,Sq,eW⟩:=Q1y w 25 #[.int .i64 lim,.slice A T Uq,.slice B M Wq];rw [Nq];clear Nq;refine (X3a _ _ s (Mj.out _ (H2.out.ext Sq.out)) HV.out).mono ?_;rintro e w1 ⟨x,rfl,hg,hx⟩;have Zq:Ext w w1:=Sq.out.trans hx;replace Lq:=hid (Lq.out.trans Zq);replace H2:=hid (H2.out.ext Zq);clear hx Zq Sq eW k0;obtain ⟨X,cx,rfl,-,-,Mi⟩:=hg.opened;have nY:=hid Mi;obtain ⟨n,hn⟩:∃ z,(Q1k s).length=z:=⟨_,rfl⟩;have HN:=hid hn;rw [hn] at hg nY ⊢;clear hg Mi hn;have j9:Hid (n <= 8):=hid (by rw [<- HN.out,Q9f,List.length_map]; have:=X4d (Q8h s) s.members.length; have:=HV.out.some.2; omega)
 go_wp2_with fail
 go_loopw [3,5] (fun sv iv wr=>∃ k:Nat,k <= n /\ iv=.int .i64 k /\ sv=.int .i64 (X6w s k) /\ wr=w1) (fun _ iv _=>n - (intOf iv).toNat)
 case atStart=>exact ⟨0,Nat.zero_le _,rfl,by rw [Z6l],rfl⟩
 case round =>
  obtain ⟨k,hk,rfl,rfl,jy⟩:=hrel;subst jy
  by_cases Tq:k < n
  . skip
    have Lj:(k:Int) < (n:Int):=by omega
    have td:k < (Q1k s).length:=by rw [HN.out]; exact Tq
    obtain ⟨b0,off,x0,rfl,-,-,e1,-⟩:=nY.out k Tq;have R5:=hid (Y4x s td);have S7:=Z5u HV.out k (by omega)
    have Fk:=Z5c HV.out td;obtain ⟨pw,vQ⟩:∃ z,Q3n (Q1k s) k=z:=⟨_,rfl⟩;rw [vQ] at e1 R5 Fk;obtain ⟨sm,hsm⟩:∃ z,X6w s k=z:=⟨_,rfl⟩;rw [hsm] at R5 S7 ⊢;have jy:IntKind.i64.wrap (sm + pw)=sm + pw:=Q3b _ (by have:=j9.out; omega) (by have:=j9.out; omega)
    have ay:Hid (wrap64 ((k:Int) + 1)=(k:Int) + 1):=hid (by have:=j9.out; unfold wrap64; omega)
    clear vQ hsm S7 Fk td;go_wp2;go_roundw
    case rel=>exact ⟨k + 1,by omega,by rw [ay.out]; go_num,by rw [R5.out],by first | rfl | trivial⟩
    case measure=>rw [ay.out]; simp [intOf]; omega
  . skip
    have Lj:¬ (k:Int) < (n:Int):=by omega
    have Cj:k=n:=by omega
    subst Cj;rw [show X6w s k=Q4u s by rw [<- HN.out]; exact J1h s]
    go_wp2;go_ret;exact ⟨rfl,Lq.out⟩
def K0o (s:Q0b) (need:Int):List Grp:=if need <= Q4u s then [] else Q1k s
def J9e (s:Q0b) (need:Int):Int:=if need <= Q4u s then 7 else 0
theorem Z3w (w:World) (v:Value) (s:Q0b) (need:Int) (hv:Q0g w v s) (hS:Q0w s) :
    Calls prog 72 #[v,.int .i64 need] w fun e w'=>∃ x,e=.returned (.tuple #[x,.int .i64 (J9e s need)]) /\ Q1q w' x (K0o s need) /\ Ext w w':=by
 obtain ⟨a,b,rfl,h2⟩:=hv;obtain ⟨A,Uq,rfl,-,-,-⟩:=h2.ships.opened;obtain ⟨B,Wq,rfl,-,-,-⟩:=h2.members.opened;have H2:=hid h2;have HV:=hid hS;obtain ⟨T,hT⟩:∃ T,s.ships.length=T:=⟨_,rfl⟩;obtain ⟨M,hM⟩:∃ M,s.members.length=M:=⟨_,rfl⟩;obtain ⟨lim,Uj⟩:∃ k,s.limit=k:=⟨_,rfl⟩;have Mj:Hid (∀ W,Q2t W (.slice A T Uq) (.slice B M Wq) s -> Q0g W (.agg #[.int .i64 lim,.slice A T Uq,.slice B M Wq]) s):=hid (fun W h=>⟨_,_,by rw [Uj],h⟩)
 rw [hT,hM] at H2;rw [hT,hM,Uj];have Lq:=hid (Ext.refl w);clear h2 hT hM Uj hS;go_enter func72,ntmps72;go_wp2_with fail;change Calls _ _ _ (w.alloc (.cells #[.int .i64 lim,.slice A T Uq,.slice B M Wq] 25)) _;obtain ⟨W,Nq,k0,Sq,eW⟩:=Q1y w 25 #[.int .i64 lim,.slice A T Uq,.slice B M Wq];rw [Nq];clear Nq;refine (Y4q _ _ s (Mj.out _ (H2.out.ext Sq.out)) HV.out).mono ?_;rintro e w1 ⟨rfl,hx⟩;have Zq:Ext w w1:=Sq.out.trans hx;replace Lq:=hid (Lq.out.trans Zq);replace H2:=hid (H2.out.ext Zq);have KB:=hid (k0.ext hx);clear hx Zq Sq eW k0;obtain ⟨gs,bq⟩:∃ z,w.heap.size=z:=⟨_,rfl⟩;rw [bq] at KB ⊢;clear bq
 by_cases lx:need <= Q4u s
 . have HR:Hid (J9e s need=7 /\ K0o s need=[]):=hid ⟨if_pos lx,if_pos lx⟩
   obtain ⟨bd,Pz⟩:∃ z,Q4u s=z:=⟨_,rfl⟩;rw [Pz] at lx ⊢;clear Pz;have hd:decide (need <= bd)=true:=decide_eq_true lx
   skip
   go_wp2;refine bodyPost_ret (results_tmp2 results72 _ _ _) rfl ?_;exact ⟨_,by rw [HR.out.1]; rfl,by rw [HR.out.2]; exact Go.Tw.Rows.nil _ _ _,Lq.out⟩
 . have HR:Hid (J9e s need=0 /\ K0o s need=Q1k s):=hid ⟨if_neg lx,if_neg lx⟩
   obtain ⟨bd,Pz⟩:∃ z,Q4u s=z:=⟨_,rfl⟩;rw [Pz] at lx ⊢;clear Pz;have hd:decide (need <= bd)=false:=decide_eq_false lx;have d0KB:=KB.out.cell 0;have d1KB:=KB.out.cell 1;have d2KB:=KB.out.cell 2;simp only [Go.Tw.gA,Go.Tw.gB,Go.Tw.gC] at d0KB d1KB d2KB;go_wp2_with fail;refine (X3a _ _ s (Mj.out _ H2.out) HV.out).mono ?_;rintro e w2 ⟨x,rfl,hg,hx⟩;have Zq:Ext w1 w2:=hx;replace Lq:=hid (Lq.out.trans Zq);replace H2:=hid (H2.out.ext Zq);replace KB:=hid (KB.out.ext Zq);clear hx Zq d0KB d1KB d2KB;have HG:=hid hg;clear hg;go_wp2;refine bodyPost_ret (results_tmp2 results72 _ _ _) rfl ?_;exact ⟨_,by rw [HR.out.1]; rfl,by rw [HR.out.2]; exact HG.out,Lq.out⟩
def J6j (s:Q0b) (need:Int) (l:List Grp):Int:=Q0u (!Q4w l (Q1k s) || decide (need <= Q4u s)) 22
theorem X5t (w:World) (v u:Value) (s:Q0b) (need:Int) (l:List Grp) (hv:Q0g w v s) (hu:Q1q w u l) (hS:Q0w s) :
    Calls prog 73 #[v,.int .i64 need,u] w fun e w'=>e=.returned (.int .i64 (J6j s need l)) /\ Ext w w':=by
 obtain ⟨Lg,ej,rfl,-,-,-⟩:=hu.opened;have HL:=hid hu;obtain ⟨NL,qv⟩:∃ k,l.length=k:=⟨_,rfl⟩;rw [qv] at HL ⊢;clear hu qv;obtain ⟨a,b,rfl,h2⟩:=hv;obtain ⟨A,Uq,rfl,-,-,-⟩:=h2.ships.opened;obtain ⟨B,Wq,rfl,-,-,-⟩:=h2.members.opened;have H2:=hid h2;have HV:=hid hS;obtain ⟨T,hT⟩:∃ T,s.ships.length=T:=⟨_,rfl⟩;obtain ⟨M,hM⟩:∃ M,s.members.length=M:=⟨_,rfl⟩;obtain ⟨lim,Uj⟩:∃ k,s.limit=k:=⟨_,rfl⟩;have Mj:Hid (∀ W,Q2t W (.slice A T Uq) (.slice B M Wq) s -> Q0g W (.agg #[.int .i64 lim,.slice A T Uq,.slice B M Wq]) s):=hid (fun W h=>⟨_,_,by rw [Uj],h⟩)
 rw [hT,hM] at H2;rw [hT,hM,Uj];have Lq:=hid (Ext.refl w);clear h2 hT hM Uj hS;go_enter func73,ntmps73;go_wp2_with fail;change Calls _ _ _ (w.alloc (.cells #[.int .i64 lim,.slice A T Uq,.slice B M Wq] 25)) _;obtain ⟨W,Nq,k0,Sq,eW⟩:=Q1y w 25 #[.int .i64 lim,.slice A T Uq,.slice B M Wq];rw [Nq];clear Nq;refine (X3a _ _ s (Mj.out _ (H2.out.ext Sq.out)) HV.out).mono ?_;rintro e w1 ⟨x,rfl,hg,hx⟩;have Zq:Ext w w1:=Sq.out.trans hx;replace Lq:=hid (Lq.out.trans Zq);replace H2:=hid (H2.out.ext Zq);replace HL:=hid (HL.out.ext Zq);have KB:=hid (k0.ext hx);have FG:=hid (hg);clear hx Zq Sq eW k0;obtain ⟨gs,bq⟩:∃ z,w.heap.size=z:=⟨_,rfl⟩;rw [bq] at KB ⊢;clear bq hg;go_wp2_with fail;refine (Q8i _ _ _ l _ HL.out FG.out).mono ?_;rintro e w2 ⟨rfl,hx⟩;have Zq:Ext w1 w2:=hx;replace Lq:=hid (Lq.out.trans Zq);clear FG;replace H2:=hid (H2.out.ext Zq);replace HL:=hid (HL.out.ext Zq);replace KB:=hid (KB.out.ext Zq);clear hx Zq;obtain ⟨sb,ZQ⟩:∃ z,Q4w l (Q1k s)=z:=⟨_,rfl⟩;have vy:=hid ZQ;rw [ZQ];clear ZQ;cases sb with
 | false =>
   have HR:Hid (J6j s need l=22):=hid (by unfold J6j; rw [vy.out]; rfl)
   go_wp2;go_ret;exact ⟨by rw [HR.out]; rfl,Lq.out⟩
 | true =>
   have d0KB:=KB.out.cell 0;have d1KB:=KB.out.cell 1;have d2KB:=KB.out.cell 2;simp only [Go.Tw.gA,Go.Tw.gB,Go.Tw.gC] at d0KB d1KB d2KB;go_wp2_with fail;refine (Y4q _ _ s (Mj.out _ H2.out) HV.out).mono ?_;rintro e w3 ⟨rfl,hx⟩;have Zq:Ext w2 w3:=hx;replace Lq:=hid (Lq.out.trans Zq);replace H2:=hid (H2.out.ext Zq);replace HL:=hid (HL.out.ext Zq);replace KB:=hid (KB.out.ext Zq);clear hx Zq d0KB d1KB d2KB;have HR:Hid (J6j s need l=if need <= Q4u s then 22 else 0):=hid (by unfold J6j; rw [vy.out,Bool.not_true,Bool.false_or]; unfold Q0u; by_cases h:need <= Q4u s <;> simp [h])
   obtain ⟨bd,Pz⟩:∃ z,Q4u s=z:=⟨_,rfl⟩;rw [Pz] at HR ⊢;clear Pz
   by_cases lx:need <= bd
   . have hd:decide (need <= bd)=true:=decide_eq_true lx
     have sd:Hid (J6j s need l=22):=hid (by rw [HR.out]; exact if_pos lx)
     go_wp2;go_ret;exact ⟨by rw [sd.out]; rfl,Lq.out⟩
   . have hd:decide (need <= bd)=false:=decide_eq_false lx
     have sd:Hid (J6j s need l=0):=hid (by rw [HR.out]; exact if_neg lx)
     go_wp2;go_ret;exact ⟨by rw [sd.out]; rfl,Lq.out⟩
def Q5z (s:Q0b) (p:List Rul) (l:List Int) (k:Nat):Bool:=(l.drop k).any fun x=>!has (Q2k s p) x
theorem J0m (s:Q0b) (p:List Rul) {l:List Int} {k:Nat} (hk:k < l.length):Q5z s p l k=(!has (Q2k s p) (ix l k) || Q5z s p l (k + 1)):=by
 unfold Q5z;rw [List.drop_eq_getElem_cons hk,List.any_cons,Q5i hk]
theorem J4k (s:Q0b) (p:List Rul) (l:List Int):Q5z s p l l.length=false:=by unfold Q5z; rw [List.drop_length]; rfl
theorem Y8j {s:Q0b} {need:Int} {p:List Rul} {l:List Int} {E:Int} (h:Q0h [Q0f need 0 8000,Q0q s.hist p,Q1z s l]=E) (hE:E ≠ 0):Q4s s need p l=E:=by
 unfold Q4s;unfold Q0h at h ⊢
 split at h
 . rename_i h1
   rw [if_pos h1];unfold Q0h at h ⊢
   split at h
   . rename_i h2
     rw [if_pos h2];unfold Q0h at h ⊢
     split at h
     . unfold Q0h at h; exact absurd h.symm hE
     . rename_i h3; rw [if_neg h3]; exact h
   . rename_i h2; rw [if_neg h2]; exact h
 . rename_i h1; rw [if_neg h1]; exact h
theorem Y2g {s:Q0b} {need:Int} {p:List Rul} {l:List Int} (h1:Q0f need 0 8000=0) (h3:Q0q s.hist p=0) (h5:Q1z s l=0):Q4s s need p l=(if Q8o s need p l then 22 else 0) /\ Q0q s.hist p=0 /\ Q1z s l=0:=by
 refine ⟨?_,h3,h5⟩;unfold Q4s;rw [Q0p,if_pos h1,Q0p,if_pos h3,Q0p,if_pos h5,Q0p]
 by_cases h6:Q8o s need p l=true
 . rw [if_pos h6]; rfl
 . rw [if_neg h6]; rfl
theorem Y6f {s:Q0b} {need:Int} {p:List Rul} {l:List Int} (h:Q0h [Q0f need 0 8000,Q0q s.hist p,Q1z s l]=0):Q4s s need p l=(if Q8o s need p l then 22 else 0) /\ Q0q s.hist p=0 /\ Q1z s l=0:=by
 rw [Q0p] at h
 by_cases h1:Q0f need 0 8000=0
 . rw [if_pos h1,Q0p] at h
   by_cases h3:Q0q s.hist p=0
   . rw [if_pos h3,Q0p] at h
     by_cases h5:Q1z s l=0
     . exact Y2g h1 h3 h5
     . rw [if_neg h5] at h; exact absurd h h5
   . rw [if_neg h3] at h; exact absurd h h3
 . rw [if_neg h1] at h; exact absurd h h1
theorem Y5w (w:World) (v rv lv:Value) (s:Q0b) (need:Int) (p:List Rul) (l:List Int) (hv:Q0g w v s) (hr:Q1d w rv p) (hl:Q0e w lv l) (he:s.err=0) (hS:Q0w s) :
    Calls prog 141 #[v,.int .i64 need,.agg #[rv,lv]] w fun e w'=>e=.returned (.int .i64 (Q4s s need p l)) /\ Ext w w':=by
 obtain ⟨R,Gq,rfl,-,-,-⟩:=hr.opened;obtain ⟨L,ej,rfl,-,-,-⟩:=hl.opened;have Nj:=hid hr;have HL:=hid hl;obtain ⟨NL,qv⟩:∃ k,l.length=k:=⟨_,rfl⟩;have D7:=hid qv;obtain ⟨NR,i6⟩:∃ k,p.length=k:=⟨_,rfl⟩;have Nw:Hid (∀ W,Q1d W (.slice R NR Gq) p -> Q0m W (.agg #[.slice R NR Gq]) p):=hid (fun W h=>⟨_,rfl,h⟩);have HE:=hid he;rw [qv] at HL;rw [i6] at Nj;rw [qv,i6];clear hr hl qv i6 he;obtain ⟨a,b,rfl,h2⟩:=hv;obtain ⟨A,Uq,rfl,-,-,-⟩:=h2.ships.opened;obtain ⟨B,Wq,rfl,-,-,-⟩:=h2.members.opened;have H2:=hid h2;have HV:=hid hS;obtain ⟨T,hT⟩:∃ T,s.ships.length=T:=⟨_,rfl⟩;obtain ⟨M,hM⟩:∃ M,s.members.length=M:=⟨_,rfl⟩;obtain ⟨lim,Uj⟩:∃ k,s.limit=k:=⟨_,rfl⟩;have Mj:Hid (∀ W,Q2t W (.slice A T Uq) (.slice B M Wq) s -> Q0g W (.agg #[.int .i64 lim,.slice A T Uq,.slice B M Wq]) s):=hid (fun W h=>⟨_,_,by rw [Uj],h⟩)
 rw [hT,hM] at H2;rw [hT,hM,Uj];have Lq:=hid (Ext.refl w);clear h2 hT hM Uj hS;go_enter func141,ntmps141;go_wp2_with fail;obtain ⟨W,Nq,k0,k1,Sq,eW⟩:=Q3p w 25 #[.int .i64 lim,.slice A T Uq,.slice B M Wq] 118 #[.slice R NR Gq,.slice L NL ej];rw [Nq];clear Nq;obtain ⟨gs,bq⟩:∃ z,w.heap.size=z:=⟨_,rfl⟩;rw [bq] at k0 k1 eW ⊢;have KB:=hid k0;have KT:=hid k1;clear k0 k1 bq eW;replace H2:=hid (H2.out.ext Sq.out);replace Nj:=hid (Nj.out.ext Sq.out);replace HL:=hid (HL.out.ext Sq.out);replace Lq:=hid (Lq.out.trans Sq.out);clear Sq;obtain ⟨w1,rfl⟩:∃ Z,Z=W:=⟨_,rfl⟩;obtain ⟨r0,fz⟩:∃ z,Q0f need 0 8000=z:=⟨_,rfl⟩;obtain ⟨a1,vg⟩:∃ z,Q0q s.hist p=z:=⟨_,rfl⟩;obtain ⟨a2,y7⟩:∃ z,Q1z s l=z:=⟨_,rfl⟩;obtain ⟨E1,P3⟩:∃ z,Q0h [r0,a1,a2]=z:=⟨_,rfl⟩;have M6:=hid fz;have O6:=hid vg;have sJ:=hid y7;have Vk:=hid P3;have Pk:Hid (Q0h [Q0f need 0 8000,Q0q s.hist p,Q1z s l]=E1):=hid (by rw [fz,vg,y7,P3])
 clear fz vg y7 P3;have Vq:=(Ext.refl w1).drew;refine Flow.Q1h [.p,.w,.w,.p,.w,.w,.w,.p,.w,.w,.w,.w,.p] [0,1,2,3,4,5,6,7,8,9,10,11,12] [[],[0],[],[],[3],[1,2,4],[],[],[7],[5,6,8],[1,5,9],[9,10],[0,1,2,3,4,5,6,7,8,9,10,11]]
  [.c 0 (.int .i64 need),.c 1 (.int .i64 r0),.c 2 (.agg #[.int .i64 lim,.slice A T Uq,.slice B M Wq]),.c 3 (.pointer (some ⟨gs + 1,0,none⟩)),.c 4 (.agg #[.slice R NR Gq]),.c 5 (.int .i64 a1),.c 6 (.agg #[.int .i64 lim,.slice A T Uq,.slice B M Wq]),.c 7 (.pointer (some ⟨gs + 1,1,none⟩)),.c 8 (.slice L NL ej),.c 9 (.int .i64 a2),⟨fun v wz=>(fun v w'=>Q0e w' (v 10) [r0,a1,a2]) v wz,by intro v a b hx h; exact Q0e.ext h hx⟩,.c 11 (.int .i64 E1),.c 12 (.int .i64 E1)]
  (by kernel_rfl) rfl (by kernel_rfl) ⟨?g0,?g1,?g2,?g3,?g4,?g5,?g6,?g7,?g8,?g9,?g10,?g11,?g12,trivial⟩ ?post
 case g0 | g3 | g7=>
  intro v w1 hx;intro bb hbb;subst hbb;refine ⟨_,fun w=>?_,rfl⟩;go_simp
 case g1=>
  intro v w1 hx;(repeat intro (zq:v _=_));intro bb hbb;subst hbb;intro K2 jq;go_simp;refine Q0d (X1z w1 need) ?_;rintro e w2 ⟨rfl,rfl⟩;exact ⟨_,rfl,jq _ _ (Ext.refl _) (congrArg (Value.int .i64) M6.out)⟩
 case g2 | g6=>
  intro v w1 hx;intro bb hbb;intro K2 jq;have o1:bb.eval (.tmp 3)=.pointer (some ⟨gs,0,none⟩):=fze11
  exact Q0i (.tmp 3) _ rfl Q9r Q6r o1 (KB.out.ext (Vq.trans hx)) rfl (jq _ _ (Ext.refl _) rfl)
 case g4=>
  intro v w1 hx;(repeat intro (zq:v _=_));intro bb hbb;intro K hK;have o1:bb.eval (.tmp 13)=.pointer (some ⟨gs + 1,0,none⟩):=by rw [hbb]; dsimp only; (try simp (discharger:=decide) only [eval_put_ne]); rw [Q0a (by simp only [size_put]; exact (by decide:13 < 50))]; assumption
  exact Q1m (.tmp 13) _ rfl X2l Q7r o1 (Q6h (KT.out.ext (Vq.trans hx))) rfl (hK _ _ (Ext.refl _) rfl)
 case g5=>
  intro v w1 hx;(repeat intro (zq:v _=_));intro bb hbb;subst hbb;intro K2 jq;go_simp;refine Q0d (X0l w1 _ _ s p (Mj.out _ (H2.out.ext (Vq.trans hx))) (Nw.out _ (Nj.out.ext (Vq.trans hx))) HE.out) ?_;rintro e w2 ⟨rfl,Mq⟩;exact ⟨_,rfl,jq _ _ Mq (congrArg (Value.int .i64) O6.out)⟩
 case g8=>
  intro v w1 hx;(repeat intro (zq:v _=_));intro bb hbb;subst hbb;have n0:w1.cell? ⟨gs + 1,1,none⟩=some (.slice L NL ej):=(KT.out.ext (Vq.trans hx)).cell 1;intro K hK;go_simp;exact hK _ _ (Ext.refl _) rfl
 case g9=>
  intro v w1 hx;(repeat intro (zq:v _=_));intro bb hbb;subst hbb;intro K2 jq;go_simp;refine Q0d (X7w w1 _ _ s l (Mj.out _ (H2.out.ext (Vq.trans hx))) (HL.out.ext (Vq.trans hx))) ?_;rintro e w2 ⟨rfl,Mq⟩;exact ⟨_,rfl,jq _ _ Mq (congrArg (Value.int .i64) sJ.out)⟩
 case g10=>
  intro v w1 hx;(repeat intro (zq:v _=_));intro bb hbb;subst hbb;intro K hK;go_simp;exact hK _ _ (Ext.box _ _) (Q1v (l:=[r0,a1,a2]) (by simp))
 case g11=>
  intro v w1 hx (q9:v 9=_) (q10:(fun v w'=>Q0e w' (v 10) [r0,a1,a2]) v w1);intro bb hbb;subst hbb;intro K2 jq;go_simp;refine Q0d (X3x w1 _ [r0,a1,a2] q10) ?_;rintro e w2 ⟨rfl,rfl⟩;exact ⟨_,rfl,jq _ _ (Ext.refl _) (congrArg (Value.int .i64) Vk.out)⟩
 case g12=>
  intro v w1 hx (q0:v 0=_) (q1:v 1=_) (q2:v 2=_) (q3:v 3=_) (q4:v 4=_) (q5:v 5=_) (q6:v 6=_) (q7:v 7=_) (q8:v 8=_) (q9:v 9=_) _ (q11:v 11=_);intro bb hbb;subst hbb;refine ⟨_,fun w=>?_,rfl⟩;go_simp
 case post =>
  intro v w1 hx;(iterate 10 intro (zq:v _=_));intro (q10:(fun v w'=>Q0e w' (v 10) [r0,a1,a2]) v w1);(iterate 2 intro (zq:v _=_));simp only [Flow.All,Flow.acts,Act.put];go_simp;have Zq:=Vq.trans hx;replace Lq:=hid (Lq.out.trans Zq);replace H2:=hid (H2.out.ext Zq);replace Nj:=hid (Nj.out.ext Zq);replace HL:=hid (HL.out.ext Zq);replace KB:=hid (KB.out.ext Zq);replace KT:=hid (KT.out.ext Zq);obtain ⟨w2,rfl⟩:∃ Z,Z=w1:=⟨_,rfl⟩;clear hx Vq Zq q10;(repeat clear zq)
  by_cases hz:E1=0
  . skip
    have P3:=Vk.out;obtain ⟨Li,Wz,aq⟩:=Y6f (Pk.out.trans hz);have rd:=hid Li;have Vv:=hid Wz;have Sg:=hid (Y3o aq);have aG:(E1 != 0)=false:=by simp [hz]
    clear P3 Li Wz aq hz;have Oa:=Vv;have d0KB:=KB.out.cell 0;have d1KB:=KB.out.cell 1;have d2KB:=KB.out.cell 2;have d0KT:=KT.out.cell 0;have d1KT:=KT.out.cell 1;simp only [Go.Tw.gA,Go.Tw.gB,Go.Tw.gC] at d0KB d1KB d2KB d0KT d1KT;go_wp2_with (refine Q1r rfl ?_; first | refine Q0i (.tmp 3) _ rfl Q9r Q6r rfl KB.out rfl ?_ | refine Q1m (.tmp 26) _ rfl X2l Q7r rfl (Q6h KT.out) rfl ?_)
    refine (Y8w _ _ _ s p (Mj.out _ H2.out) (Nw.out _ Nj.out) HV.out Vv.out).mono ?_;rintro e w3 ⟨xk,rfl,hk,hx⟩;replace Lq:=hid (Lq.out.trans hx);replace H2:=hid (H2.out.ext hx);replace Nj:=hid (Nj.out.ext hx);replace HL:=hid (HL.out.ext hx);replace KB:=hid (KB.out.ext hx);replace KT:=hid (KT.out.ext hx);clear hx d0KB d1KB d2KB d0KT d1KT;obtain ⟨Xk,ck,rfl,-,-,-⟩:=hk.opened;have U3:=hid hk;obtain ⟨nk,U2⟩:∃ z,(Q2k s p).length=z:=⟨_,rfl⟩;rw [U2] at U3 ⊢;clear hk U2 Oa;go_wp2_with fail
    go_loopw [9] (fun iv wr=>∃ k:Nat,k <= NL /\ iv=.int .i64 k /\ Q5z s p l k=Q5z s p l 0 /\ wr=w3) (fun iv _=>NL - (intOf iv).toNat)
    case atStart=>exact ⟨0,Nat.zero_le _,rfl,rfl,rfl⟩
    case round =>
     obtain ⟨k,hk,rfl,Lx,jy⟩:=hrel;subst jy;have N0:=hid Lx;clear Lx;have L2:Hid (Q8o s need p l=(Q5z s p l 0 || decide (Q1u s l < need))):=hid rfl
     have d0:=KT.out.cell 0;have d1:=KT.out.cell 1;simp only [Go.Tw.gA,Go.Tw.gB,Go.Tw.gC] at d0 d1
     by_cases Tq:k < NL
     . skip
       have Lj:(k:Int) < (NL:Int):=by omega
       have rX:k < l.length:=by rw [D7.out]; exact Tq
       obtain ⟨L1,c1,e1,-,-,hcl⟩:=HL.out.opened;obtain ⟨bl,ol,hX,Xq⟩:=hcl k rX;injection e1 with e1 e2 e3;subst e1;subst e3;subst hX;clear e2 hcl;have yj:=J0m s p rX;rw [N0.out] at yj;obtain ⟨xk,Sk⟩:∃ z,ix l k=z:=⟨_,rfl⟩;rw [Sk] at Xq yj;have qq:=hid yj;have ay:Hid (wrap64 ((k:Int) + 1)=(k:Int) + 1):=hid (by have:=Sg.out.2; rw [D7.out] at this; unfold wrap64; omega)
       clear yj Sk rX;go_wp2_with fail;refine (Z6s _ _ _ _ U3.out).mono ?_;rintro e w9 ⟨rfl,Ri⟩;subst Ri;cases hH:has (Q2k s p) xk with
       | false =>
         have HR:Hid (Q4s s need p l=22):=hid (by rw [rd.out,L2.out,qq.out,hH]; rfl)
         go_wp2;go_ret;exact ⟨by rw [HR.out]; rfl,Lq.out⟩
       | true =>
         have Pg:Hid (Q5z s p l (k + 1)=Q5z s p l 0):=hid (by rw [qq.out,hH]; rfl)
         go_wp2;go_roundw
         case rel=>exact ⟨k + 1,by omega,by rw [ay.out]; go_num,Pg.out,by first | rfl | trivial⟩
         case measure=>rw [ay.out]; simp [intOf]; omega
     . skip
       have Lj:¬ (k:Int) < (NL:Int):=by omega
       have Cj:k=NL:=by omega
       subst Cj;have Nd:Hid (Q5z s p l 0=false):=hid (by rw [<- N0.out,<- D7.out]; exact J4k s p l)
       have b0:=KB.out.cell 0;have b1:=KB.out.cell 1;have b2:=KB.out.cell 2;simp only [Go.Tw.gA,Go.Tw.gB,Go.Tw.gC] at b0 b1 b2;go_wp2_with fail;refine (X8x _ _ _ s l (Mj.out _ H2.out) HL.out HV.out Sg.out.1 (by have:=Sg.out.2; omega)).mono ?_
       rintro e w4 ⟨rfl,hx⟩;replace Lq:=hid (Lq.out.trans hx);clear hx b0 b1 b2 d0 d1;obtain ⟨wt,Vj⟩:∃ z,Q1u s l=z:=⟨_,rfl⟩;rw [Vj] at L2 ⊢;clear Vj
       by_cases Ki:wt < need
       . have hd:decide (wt < need)=true:=decide_eq_true Ki
         have HR:Hid (Q4s s need p l=22):=hid (by rw [rd.out,L2.out,hd,Bool.or_true]; rfl)
         go_wp2;go_ret;exact ⟨by rw [HR.out]; rfl,Lq.out⟩
       . have hd:decide (wt < need)=false:=decide_eq_false Ki
         have HR:Hid (Q4s s need p l=0):=hid (by rw [rd.out,L2.out,hd,Nd.out]; rfl)
         go_wp2;go_ret;exact ⟨by rw [HR.out]; rfl,Lq.out⟩
  . skip
    have aG:(E1 != 0)=true:=by simp [hz]
    have HR:Hid (Q4s s need p l=E1):=hid (Y8j Pk.out hz);clear hz;go_wp2;go_ret;exact ⟨by rw [HR.out]; rfl,Lq.out⟩
theorem Tryz.J9i (w:World):(isAgg 118).run prog w=.ok true w:=by kernel_rfl
theorem Tryz.J8h (w:World):(sizeOf 118).run prog w=.ok 2 w:=by kernel_rfl
theorem Z2v {s:Q0b} {need:Int} {p:List Rul} {l:List Int} (h:s.err ≠ 0):Q8z s need p l=s.err:=if_pos h
theorem Z1i {s:Q0b} {need:Int} {p:List Rul} {l:List Int} (h:s.err=0):Q8z s need p l=Q4s s need p l:=if_neg (fun x=>x h)
theorem Y2e (w:World) (v rv lv:Value) (s:Q0b) (need:Int) (p:List Rul) (l:List Int) (hv:Q0g w v s) (hr:Q1d w rv p) (hl:Q0e w lv l) :
    Calls prog 77 #[v,.int .i64 need,.agg #[rv,lv]] w fun e w'=>e=.returned (.int .i64 (Q8z s need p l)) /\ Ext w w':=by
 obtain ⟨R,Gq,rfl,-,-,-⟩:=hr.opened;obtain ⟨L,ej,rfl,-,-,-⟩:=hl.opened;have Nj:=hid hr;have HL:=hid hl;obtain ⟨NL,qv⟩:∃ k,l.length=k:=⟨_,rfl⟩;obtain ⟨NR,i6⟩:∃ k,p.length=k:=⟨_,rfl⟩;rw [qv] at HL;rw [i6] at Nj;rw [qv,i6];clear hr hl qv i6;obtain ⟨a,b,rfl,h2⟩:=hv;obtain ⟨A,Uq,rfl,-,-,-⟩:=h2.ships.opened;obtain ⟨B,Wq,rfl,-,-,-⟩:=h2.members.opened;have H2:=hid h2
 skip
 obtain ⟨T,hT⟩:∃ T,s.ships.length=T:=⟨_,rfl⟩;obtain ⟨M,hM⟩:∃ M,s.members.length=M:=⟨_,rfl⟩;obtain ⟨lim,Uj⟩:∃ k,s.limit=k:=⟨_,rfl⟩;have Mj:Hid (∀ W,Q2t W (.slice A T Uq) (.slice B M Wq) s -> Q0g W (.agg #[.int .i64 lim,.slice A T Uq,.slice B M Wq]) s):=hid (fun W h=>⟨_,_,by rw [Uj],h⟩)
 rw [hT,hM] at H2;rw [hT,hM,Uj];have Lq:=hid (Ext.refl w);clear h2 hT hM Uj;go_enter func77,ntmps77;go_wp2_with fail;change Calls _ _ _ ((w.alloc (.cells #[.int .i64 lim,.slice A T Uq,.slice B M Wq] 25)).alloc (.cells #[.slice R NR Gq,.slice L NL ej] 118)) _;obtain ⟨W,Nq,k0,k1,Sq,eW⟩:=Q3p w 25 #[.int .i64 lim,.slice A T Uq,.slice B M Wq] 118 #[.slice R NR Gq,.slice L NL ej];rw [Nq];clear Nq;refine (Q6s _ _ s (Mj.out _ (H2.out.ext Sq.out))).mono ?_;rintro e w1 ⟨rfl,hx⟩;have Zq:Ext w w1:=Sq.out.trans hx;replace Lq:=hid (Lq.out.trans Zq);replace H2:=hid (H2.out.ext Zq);replace Nj:=hid (Nj.out.ext Zq);replace HL:=hid (HL.out.ext Zq);have KB:=hid (k0.ext hx);have KT:=hid (k1.ext hx);clear hx Zq Sq eW k0 k1;obtain ⟨gs,bq⟩:∃ z,w.heap.size=z:=⟨_,rfl⟩;rw [bq] at KB KT ⊢;clear bq
 by_cases he:s.err=0
 . have HE:=hid he
   have HV:=hid (Q0w.of he);rw [he];clear he;have d0KB:=KB.out.cell 0;have d1KB:=KB.out.cell 1;have d2KB:=KB.out.cell 2;simp only [Go.Tw.gA,Go.Tw.gB,Go.Tw.gC] at d0KB d1KB d2KB;have d0KT:=KT.out.cell 0;have d1KT:=KT.out.cell 1;simp only [Go.Tw.gA,Go.Tw.gB,Go.Tw.gC] at d0KT d1KT;go_wp2_with fail;refine (Y5w _ _ _ _ s need p l (Mj.out _ H2.out) Nj.out HL.out HE.out HV.out).mono ?_;rintro e w2 ⟨rfl,hx⟩;have Zq:Ext w1 w2:=hx;replace Lq:=hid (Lq.out.trans Zq);replace H2:=hid (H2.out.ext Zq);replace Nj:=hid (Nj.out.ext Zq);replace HL:=hid (HL.out.ext Zq);replace KB:=hid (KB.out.ext Zq);replace KT:=hid (KT.out.ext Zq);clear hx Zq d0KB d1KB d2KB d0KT d1KT;go_wp2;go_ret;exact ⟨by rw [Z1i HE.out]; rfl,Lq.out⟩
 . have V7:(s.err != 0)=true:=by simp [he]
   have HR:Hid (Q8z s need p l=s.err):=hid (Z2v he);obtain ⟨E,hE⟩:∃ z,s.err=z:=⟨_,rfl⟩;rw [hE] at V7 HR ⊢;clear he hE;go_wp2;go_ret;exact ⟨by rw [HR.out]; rfl,Lq.out⟩
theorem Y8q (w:World) (a:Option Addr) (n c:Nat) (b:Int):(Instr.build 64 #[(0,.slice a n c),(1,.int .i64 b)]).run prog w=.ok (.agg #[.slice a n c,.int .i64 b]) w:=by kernel_rfl
theorem J2j (w:World) (a:Option Addr) (n c:Nat) (b:Int):(Instr.buildSlice 60 1 #[(0,.agg #[.slice a n c,.int .i64 b])]).run prog w=.ok (.slice (some ⟨w.heap.size,0,none⟩) 1 1) (w.alloc (.cells #[.slice a n c,.int .i64 b] 64)):=by kernel_rfl
theorem Y9r (w:World) (a b:Option Addr) (n c m d:Nat):(Instr.build 124 #[(0,.agg #[.slice a n c]),(1,.slice b m d)]).run prog w=.ok (.agg #[.slice a n c,.slice b m d]) w:=by kernel_rfl
theorem J0g {w:World} {q:Value × Grp} (h:Q0n w 0 3 (.int .i64) q.1 q.2.members):∀ u ∈ Q5m q,u.oneCell'=true:=by
 obtain ⟨b,c,e,_⟩:=h.shape;intro u hu;simp only [Q5m,List.mem_cons,List.not_mem_nil,or_false] at hu
 rcases hu with rfl | rfl
 . rw [e]; rfl
 . rfl
def Z6b (w w':World) (p:List Grp) (e:Ending):Prop:=∃ u qs,e=.returned u /\ Q1b w' w.heap.size 64 2 Q5m u qs /\ qs.map (·.2)=p /\ GrR w' qs /\ Ext w w'
theorem Z3o (w:World) (v:Value) (p:List Grp) (hv:Q1q w v p) (hl:p.length <= 4096) (h8:∀ k,k < p.length -> (Q1w p k).length <= 4096) :
    Calls prog 79 #[v] w fun e w'=>Z6b w w' p e:=by
 obtain ⟨i0,hi,fq,mq,iq⟩:=info_parts J6l;obtain ⟨A,Qq,rfl,-,Kq,hc⟩:=hv.opened;have HC:=hid hc;obtain ⟨n,hn⟩:∃ n,p.length=n:=⟨_,rfl⟩;have HN:=hid hn;rw [hn] at hl HC h8 ⊢;have H8:=hid h8;clear hv hc hn Kq h8;go_enter func79,ntmps79;go_wp2_with fail
 go_loopw [3,8] (fun vo i wr=>∃ (k:Nat) (qs:List (Value × Grp)),k <= n /\ i=.int .i64 k /\ Q1b wr w.heap.size 64 2 Q5m vo qs /\ qs.map (·.2)=p.take k /\ GrR wr qs /\ Ext w wr) (fun _ i _=>n - (intOf i).toNat)
 case atStart=>exact ⟨0,[],Nat.zero_le _,rfl,Q1b.nil _ _ _ _ _,rfl,GrR.nil _,Ext.refl _⟩
 case round =>
  obtain ⟨k,qs,hk,rfl,Yq,Lz,Bv,Dq⟩:=hrel;have rz:qs.length=k:=by rw [<- List.length_map (f:=(·.2)),Lz,List.length_take,HN.out]; omega
  obtain ⟨Av,cav,rfl,-⟩:=Yq.shape;rw [rz] at Yq;have zg:=hid Lz;have Nj:=hid Bv;have rq:=hid Dq
  by_cases Tq:k < n
  . have Lj:(k:Int) < n:=by omega
    obtain ⟨b,off,x,rfl,hb,e0,e1,mz⟩:=HC.out k Tq;replace e0:=Dq.cell e0;replace e1:=Dq.cell e1;obtain ⟨X,Rq,rfl,-,-,-⟩:=mz.opened;have Wx:p.take (k + 1)=p.take k ++ [⟨Q1w p k,Q3n p k⟩]:=by
     rw [List.take_succ_eq_append_getElem (by rw [HN.out]; exact Tq),Q1w,Q3n,Q0t _ (by rw [HN.out]; exact Tq)]
    have C5:=H8.out k Tq;have HI:=hid (mz.ext Dq);have tz:=hid Wx;obtain ⟨cs,Bk⟩:∃ c,Q1w p k=c:=⟨_,rfl⟩;obtain ⟨cb,Rj⟩:∃ c,Q3n p k=c:=⟨_,rfl⟩;rw [Bk] at e0 HI tz C5;rw [Rj] at e1 tz;have pj:=Ext.box wr (.cells #[.slice X cs.length Rq,.int .i64 cb] 153);have qj:=Blk.made wr 153 #[.slice X cs.length Rq,.int .i64 cb];have lq:=hid (Yq.below pj);have M6:=hid (Bv.ext pj);have F7:=hid (HI.out.ext pj);have zj:=hid (Dq.trans pj);clear Lz Bv Dq mz Wx Bk Rj Yq;go_wp2_with fail;obtain ⟨gx,EJ⟩:∃ x,wr.heap.size=x:=⟨_,rfl⟩;obtain ⟨wb,nz⟩:∃ Z,wr.alloc (.cells #[.slice X cs.length Rq,.int .i64 cb] 153)=Z:=⟨_,rfl⟩;rw [nz,EJ] at qj;rw [nz] at pj lq M6 F7 zj;rw [nz,EJ];have KX:=hid qj;have Vq:=(Ext.refl wb).drew;clear nz EJ qj pj e0 e1 hb;refine Flow.Q4h [.p,.p,.w,.w,.p,.w,.p,.w,.last,.last] [0,1,2,3,4,5,6,7,8,9] [[],[],[1],[1,2],[],[4],[1,2,3,4,5],[1,2,3,4,5,6],[0,1,2,3,4,5,6,7],[0,1,2,3,4,5,6,7,8]] [8,9]
     [.c 0 (.slice Av k cav),.c 1 (.pointer (some ⟨gx,0,none⟩)),.c 2 (.slice X cs.length Rq),⟨fun v wz=>(fun v w'=>Q0n w' 0 3 (.int .i64) (v 3) cs) v wz,by intro v a b hx h; exact Q0n.below h hx⟩,.c 4 (.pointer (some ⟨gx,1,none⟩)),.c 5 (.int .i64 cb),⟨fun v wz=>(fun v w'=>v 6=.agg #[v 3,.int .i64 cb]) v wz,by intro _ _ _ _ h; exact h⟩,⟨fun v wz=>(fun v w'=>∃ g,v 7=.slice (some ⟨g,0,none⟩) 1 1 /\ Blk w' g 64 (Q5m (v 3,⟨cs,cb⟩)).toArray) v wz,by rintro v a b hx ⟨g,h1,h2⟩; exact ⟨g,h1,h2.ext hx⟩⟩,.none,.none]
     [fun v w1 w'=>Q1b w' w.heap.size 64 2 Q5m (v 8) (qs ++ [(v 3,⟨cs,cb⟩)]) /\ w1.grownBy w' (Value.slice Av k cav).ownBlock,fun v w1 w'=>v 9=v 8 /\ Q1b w' w.heap.size 64 2 Q5m (v 8) (qs ++ [(v 3,⟨cs,cb⟩)]) /\ w1.grownBy w' (Value.slice Av k cav).ownBlock] (by kernel_rfl) rfl (by kernel_rfl) ⟨?g0,?g1,?g2,?g3,?g4,?g5,?g6,?g7,?g8,?g9,trivial⟩ ?post
    case g0 | g1 | g4=>
     intro v w1 hx;intro bb hbb;subst hbb;refine ⟨_,fun w=>?_,rfl⟩;go_simp
    case g2 | g5=>
     intro v w1 hx;(repeat intro (zq:v _=_));intro bb hbb;subst hbb;have n0:w1.cell? ⟨gx,0,none⟩=some (.slice X cs.length Rq):=(KX.out.ext (Vq.trans hx)).cell 0;have n1:w1.cell? ⟨gx,1,none⟩=some (.int .i64 cb):=(KX.out.ext (Vq.trans hx)).cell 1;intro K hK;go_simp;exact hK _ _ (Ext.refl _) rfl
    case g3=>
     intro v w1 hx;(repeat intro (zq:v _=_));intro bb hbb;subst hbb;intro K hK;go_simp;refine Q0d (Q7s w1 _ _ (F7.out.ext (Vq.trans hx)) (by omega)) ?_
     rintro e w2 ⟨u,rfl,Yq,Mq⟩;exact ⟨_,rfl,hK _ _ Mq (Q0n.weaken Yq (Nat.zero_le _))⟩
    case g6=>
     intro v w1 hx (q1:v 1=_) (q2:v 2=_) (q3:(fun v w'=>Q0n w' 0 3 (.int .i64) (v 3) cs) v w1) (q4:v 4=_) (q5:v 5=_);intro bb hbb;obtain ⟨s9,c9,e9,_⟩:=Q0n.shape q3;have o1:bb.eval (.tmp 15)=v 3:=by rw [hbb]; dsimp only; (try simp (discharger:=decide) only [eval_put_ne]); rw [Q0a (by simp only [size_put]; exact (by decide:15 < 23))]
     have o2:bb.eval (.tmp 17)=.int .i64 cb:=by rw [hbb]; dsimp only; (try simp (discharger:=decide) only [eval_put_ne]); rw [Q0a (by simp only [size_put]; exact (by decide:17 < 23))]; exact q5
     rw [e9] at o1;exact ⟨_,fun w=>X1r _ (.tmp 15) (.tmp 17) rfl o1 o2 (fun w=>Y8q w _ _ _ _),by show Value.agg #[.slice s9 cs.length c9,.int .i64 cb]=Value.agg #[v 3,.int .i64 cb]; rw [e9]⟩
    case g7=>
     intro v w1 hx (q1:v 1=_) (q2:v 2=_) (q3:(fun v w'=>Q0n w' 0 3 (.int .i64) (v 3) cs) v w1) (q4:v 4=_) (q5:v 5=_) (q6:(fun v w'=>v 6=.agg #[v 3,.int .i64 cb]) v w1);intro bb hbb;intro K hK;obtain ⟨s9,c9,e9,_⟩:=Q0n.shape q3;have o1:bb.eval (.tmp 18)=.agg #[v 3,.int .i64 cb]:=by rw [hbb]; dsimp only; (try simp (discharger:=decide) only [eval_put_ne]); rw [Q0a (by simp only [size_put]; exact (by decide:18 < 23))]; exact q6
     rw [e9] at o1;have jx:Blk (w1.alloc (.cells (Value.agg #[.slice s9 cs.length c9,.int .i64 cb]).cells 64)) w1.heap.size 64 (Q5m (v 3,⟨cs,cb⟩)).toArray:=by rw [e9]; exact Blk.made _ _ _
     exact Q3t 60 64 (.tmp 18) rfl o1 (J2j w1 _ _ _ _) (hK _ _ (Ext.box _ _) ⟨_,rfl,jx⟩)
    case g8=>
     intro v w1 hx (q0:v 0=_) (q1:v 1=_) (q2:v 2=_) (q3:(fun v w'=>Q0n w' 0 3 (.int .i64) (v 3) cs) v w1) (q4:v 4=_) (q5:v 5=_) _ (q7:(fun v w'=>∃ g,v 7=.slice (some ⟨g,0,none⟩) 1 1 /\ Blk w' g 64 (Q5m (v 3,⟨cs,cb⟩)).toArray) v w1);intro wl hT;obtain rfl:wl=w1:=hT;intro bb hbb;intro K hK;obtain ⟨g,U6,T6⟩:=q7;have o1:bb.eval (.tmp 12)=.slice Av k cav:=by rw [hbb]; dsimp only; (try simp (discharger:=decide) only [eval_put_ne]); rw [Q0a (by simp only [size_put]; exact (by decide:12 < 23))]; exact q0
     have o2:bb.eval (.tmp 19)=.slice (some ⟨g,0,none⟩) 1 1:=by rw [hbb]; dsimp only; (try simp (discharger:=decide) only [eval_put_ne]); rw [Q0a (by simp only [size_put]; exact (by decide:19 < 23))]; exact U6
     have Zq:=Vq.trans hx;exact Q2z _ _ 60 rfl w.heap.size 64 i0 (.agg #[.slice none 0 0,.int .i64 0]) 2 32 underlying60 hi fq mq iq rfl (by decide) Q5m Q4m (.slice Av k cav) _ (v 3,⟨cs,cb⟩) o1 (lq.out.below Zq) ⟨g,0,none⟩ 1 o2 (Q6i T6) (J0g (q:=(v 3,⟨cs,cb⟩)) q3) (by omega) (by decide) (zj.out.trans Zq).size (fun v' w' h1 h2=>hK _ _ ⟨h1,h2⟩)
    case g9=>
     intro v w1 hx (q0:v 0=_) (q1:v 1=_) (q2:v 2=_) _ (q4:v 4=_) (q5:v 5=_) _ _;intro wl hT;replace hT:(fun v w1 w'=>Q1b w' w.heap.size 64 2 Q5m (v 8) (qs ++ [(v 3,⟨cs,cb⟩)]) /\ w1.grownBy w' (Value.slice Av k cav).ownBlock) v w1 wl:=hT;intro bb hbb;subst hbb;intro K hK;go_simp;exact hK _ _ ⟨rfl,hT⟩
    case post =>
     intro v w1 hx;(iterate 3 intro (zq:v _=_));intro (q3:(fun v w'=>Q0n w' 0 3 (.int .i64) (v 3) cs) v w1);(iterate 2 intro (zq:v _=_));intro (q6:(fun v w'=>v 6=.agg #[v 3,.int .i64 cb]) v w1) (q7:(fun v w'=>∃ g,v 7=.slice (some ⟨g,0,none⟩) 1 1 /\ Blk w' g 64 (Q5m (v 3,⟨cs,cb⟩)).toArray) v w1);intro w2 hE;replace hE:(fun v w1 w'=>v 9=v 8 /\ Q1b w' w.heap.size 64 2 Q5m (v 8) (qs ++ [(v 3,⟨cs,cb⟩)]) /\ w1.grownBy w' (Value.slice Av k cav).ownBlock) v w1 w2:=hE;simp only [Flow.acts,Act.put];go_simp;obtain ⟨h9,r9,xz⟩:=hE;have Zq:=Vq.trans hx;have sy:=lq.out.below Zq;have ZV:Ext w w2:=Below.grown (zj.out.trans Zq) xz (zj.out.trans Zq).size (fun j hj=>(sy.lt j hj).1);have Yx:=hid ZV;have T4:=hid r9;have BY:=hid (((M6.out.ext Zq).snoc (q:=(v 3,⟨cs,cb⟩)) q3).grown sy (by decide) xz)
     try rw [h9]
     obtain ⟨vn,RY⟩:∃ z,v 8=z:=⟨_,rfl⟩;rw [RY] at T4 ⊢;clear r9 xz Zq hx sy ZV Vq h9 RY q3 q6 q7;(repeat clear zq);go_wp2;go_roundw
     case rel=>exact ⟨k + 1,qs ++ [(v 3,⟨cs,cb⟩)],by omega,by go_num,T4.out,by rw [List.map_append,zg.out,tz.out]; rfl,BY.out,Yx.out⟩
     case measure=>simp [intOf]; omega
  . have Lj:¬ (k:Int) < n:=by omega
    have nj:k=n:=by omega
    subst nj;have hp:p.take k=p:=by rw [List.take_of_length_le (by rw [HN.out]; omega)]
    rw [hp] at Lz;have Qz:=hid Yq;have U8:=hid Lz;clear Yq Lz Bv Dq hp;go_wp2;go_ret;exact ⟨_,qs,rfl,Qz.out,U8.out,Nj.out,rq.out⟩
theorem J7t {w':World} {B:Nat} {u:Value} {qs:List (Value × Grp)} {p:List Grp} (ho:Q1b w' B 64 2 Q5m u qs) (hq:qs.map (·.2)=p) (hr:GrR w' qs) (hl:p.length <= 1000) (h8:∀ k,k < p.length -> (Q1w p k).length <= 1000):Q1q w' u p:=by
 subst hq;rw [List.length_map] at hl;exact Z0w ho hr hl fun q hq=>by
  obtain ⟨j,hj,rfl⟩:=List.getElem_of_mem hq;have:=h8 j (by rw [List.length_map]; exact hj)
  unfold Q1w at this;rw [Q0t _ (by rw [List.length_map]; exact hj),List.getElem_map] at this
  exact this
theorem Z2p (w:World) (v:Value) (p:List Grp) (hv:Q1q w v p) (hl:p.length <= 1000) (h8:∀ k,k < p.length -> (Q1w p k).length <= 1000) :
    Calls prog 79 #[v] w fun e w'=>∃ u,e=.returned u /\ Q1q w' u p /\ Ext w w' :=
 (Z3o w v p hv (by omega) (fun k hk=>by have:=h8 k hk; omega)).mono fun e w' h=>by
  unfold Z6b at h;obtain ⟨u,qs,he,ho,hq,hr,hx⟩:=h;exact ⟨u,he,J7t ho hq hr hl h8,hx⟩
def X2r (m:Mem) (lim:Int) (t j:Nat):Bool:=(List.range j).any fun n=>m.keeps lim (Q5l n t)
theorem Y7q (m:Mem) (lim:Int) (t j:Nat):X2r m lim t (j + 1)=(X2r m lim t j || m.keeps lim (Q5l j t)):=by
 unfold X2r; rw [List.range_succ,List.any_append]; simp
def Y1v (s:Q0b) (n:Int):Int:=if Q6v s n=0 then (if (X0k s n.toNat).isSome then 0 else 7) else Q6v s n
def X8w (s:Q0b) (n:Int):Int:=if Q6v s n=0 then (((X0k s n.toNat).getD 0:Nat):Int) else 0
theorem J1y {s:Q0b} {i k:Nat} (hk:k < s.ships.length) (h0:∀ t,t < k -> (Q2a s i).X6t s.limit (t + 1)=true) (h1:(Q2a s i).X6t s.limit (k + 1)=false):X0k s i=some k:=by
 unfold X0k;rw [List.find?_eq_some_iff_getElem];refine ⟨by simp [h1],k,by simpa using hk,by simp,fun j hj=>?_⟩
 simp [h0 j hj]
theorem Z9b {s:Q0b} {i:Nat} (h0:∀ t,t < s.ships.length -> (Q2a s i).X6t s.limit (t + 1)=true):X0k s i=none:=by
 unfold X0k;rw [List.find?_eq_none];intro t ht;simp [h0 t (List.mem_range.1 ht)]
theorem Z2g (w:World) (v:Value) (s:Q0b) (n:Int) (hv:Q0g w v s) (hs:Q3v s) :
    Calls prog 41 #[v,.int .i64 n] w fun e w'=>e=.returned (.tuple #[.int .i64 (X8w s n),.int .i64 (Y1v s n)]) /\ Ext w w':=by
 obtain ⟨a,b,rfl,h2⟩:=hv;obtain ⟨A,Uq,rfl,-,-,-⟩:=h2.ships.opened;obtain ⟨B,Wq,rfl,-,-,-⟩:=h2.members.opened;have H2:=hid h2;have HS:=hid hs;have Vk:Hid (∀ (W:World) (u:Value),Q0e W u [s.err,Q0u (X3f s n) 10] -> Calls prog 96 #[u] W fun e W'=>e=.returned (.int .i64 (Q6v s n)) /\ W=W'):=hid (fun W u h=>first_any W u _ h);clear h2 hs;refine (callsIn_wide (n:=9)).1 ?_;refine callsIn_of_wp_marks func41 rfl trivial ?_ rfl;simp only [ntmps41,List.size_toArray,List.length_cons,List.length_nil,Nat.reduceAdd,Nat.reduceSub,Array.replicate_succ,Array.replicate_zero,List.push_toArray,List.append_toArray,List.nil_append,List.cons_append]
 gi_wp2_with fail
 obtain ⟨W,Nq,k0,k1,Sq,eW⟩:=Q3p w 34 #[.int .i64 s.limit,.slice A s.ships.length Uq,.slice B s.members.length Wq] 3 #[.int .i64 n];rw [Nq];clear Nq;obtain ⟨gs,bq⟩:∃ x,w.heap.size=x:=⟨_,rfl⟩;have Nz:=hid bq;rw [bq] at k0 k1 eW ⊢;have K0:=hid k0;have K1:=hid k1;clear k0 k1 bq;have Vq:=(Ext.refl W).drew;have Mz:Hid (∀ W',Ext W W' -> Q0g W' (.agg #[.int .i64 s.limit,.slice A s.ships.length Uq,.slice B s.members.length Wq]) s):=hid (fun W' hW=>⟨_,_,rfl,H2.out.ext (Sq.out.trans hW)⟩);refine Z6h ?_
 gi_wp2_with fail
 refine wpIn_wide.2 ?_;refine Flow.Q1h [.w,.w,.w,.w,.w,.w,.w,.p] [0,1,2,3,4,5,6,7] [[],[0],[],[],[1,2,3],[1,4],[4,5],[0,1,2,3,4,5,6]]
  [.c 0 (.agg #[.int .i64 s.limit,.slice A s.ships.length Uq,.slice B s.members.length Wq]),.c 1 (.int .i64 s.err),.c 2 (.agg #[.int .i64 s.limit,.slice A s.ships.length Uq,.slice B s.members.length Wq]),.c 3 (.int .i64 n),.c 4 (.int .i64 (Q0u (X3f s n) 10)),⟨fun v wz=>(fun v w'=>Q0e w' (v 5) [s.err,Q0u (X3f s n) 10]) v wz,by intro v a b hx h; exact Q0e.ext h hx⟩,.c 6 (.int .i64 (Q6v s n)),.c 7 (.int .i64 (Q6v s n))]
  (by kernel_rfl) rfl (by kernel_rfl) ⟨?g0,?g1,?g2,?g3,?g4,?g5,?g6,?g7,trivial⟩ ?post
 case g0 | g2=>
  intro v w1 hx;intro bb hbb;intro K hK;have o1:bb.eval (.tmp 2)=.pointer (some ⟨gs,0,none⟩):=fze11
  exact Q0i (.tmp 2) _ rfl X8b Q9q o1 (K0.out.ext (Vq.trans hx)) rfl (hK _ _ (Ext.refl _) rfl)
 case g1=>
  intro v w1 hx;(repeat intro (zq:v _=_));intro bb hbb;subst hbb;intro K hK;go_simp;refine Q0d (Q1x w1 _ s (Mz.out w1 (Vq.trans hx)) HS.out) ?_;rintro e w2 ⟨rfl,Mq⟩;exact ⟨_,rfl,hK _ _ Mq rfl⟩
 case g3=>
  intro v w1 hx;intro bb hbb;subst hbb;have n0:w1.cell? ⟨gs + 1,0,none⟩=some (.int .i64 n):=(K1.out.ext (Vq.trans hx)).cell 0;intro K hK;go_simp;exact hK _ _ (Ext.refl _) rfl
 case g4=>
  intro v w1 hx;(repeat intro (zq:v _=_));intro bb hbb;subst hbb;intro K hK;go_simp;refine Q0d (Q2j w1 _ s n (Mz.out w1 (Vq.trans hx))) ?_;rintro e w2 ⟨rfl,Mq⟩;exact ⟨_,rfl,hK _ _ Mq rfl⟩
 case g5=>
  intro v w1 hx;(repeat intro (zq:v _=_));intro bb hbb;subst hbb;intro K hK;go_simp;exact hK _ _ (Ext.box _ _) (Q1v (l:=[s.err,Q0u (X3f s n) 10]) (by simp))
 case g6=>
  intro v w1 hx (q4:v 4=_) (q5:(fun v w'=>Q0e w' (v 5) [s.err,Q0u (X3f s n) 10]) v w1);intro bb hbb;subst hbb;intro K hK;go_simp;refine Q0d (Vk.out w1 _ q5) ?_;rintro e w2 ⟨rfl,rfl⟩;exact ⟨_,rfl,hK _ _ (Ext.refl _) rfl⟩
 case g7=>
  intro v w1 hx (q0:v 0=_) (q1:v 1=_) (q2:v 2=_) (q3:v 3=_) (q4:v 4=_) _ (q6:v 6=_);intro bb hbb;subst hbb;refine ⟨_,fun w=>?_,rfl⟩;go_simp
 case post =>
  intro v w1 hx (q0:v 0=_) (q1:v 1=_) (q2:v 2=_) (q3:v 3=_) (q4:v 4=_) (q5:(fun v w'=>Q0e w' (v 5) [s.err,Q0u (X3f s n) 10]) v w1) (q6:v 6=_) (q7:v 7=_);simp only [Flow.All,Flow.acts,Act.put];go_simp;have vq:=hid (Sq.out.trans (Vq.trans hx));have L8:=hid (K0.out.ext (Vq.trans hx));have Rp:=hid (K1.out.ext (Vq.trans hx));have Qp:Hid (gs + 1 + 1 <= w1.heap.size):=hid (by have:=(Vq.trans hx).size; omega)
  obtain ⟨w5,rfl⟩:∃ X,X=w1:=⟨_,rfl⟩;obtain ⟨y5,Ji⟩:∃ z,v 5=z:=⟨_,rfl⟩;rw [Ji];clear hx Vq Ji eW q0 q1 q2 q3 q4 q5 q6 q7
  by_cases he:Q6v s n=0
  . obtain ⟨qg,JX,Yv⟩:=Y3m he
    have hne:(Q6v s n != 0)=false:=by simp [he]
    obtain ⟨i,rfl⟩:∃ i:Nat,n=(i:Int):=⟨n.toNat,by omega⟩
    have yz:i < s.members.length:=by omega
    have Gi:Hid (X8w s (i:Int)=(((X0k s i).getD 0:Nat):Int)):=hid (by unfold X8w; rw [if_pos he,Int.toNat_natCast])
    have Fi:Hid (Y1v s (i:Int)=if (X0k s i).isSome then 0 else 7):=hid (by unfold Y1v; rw [if_pos he,Int.toNat_natCast])
    obtain ⟨E,hE⟩:∃ E,Q6v s (i:Int)=E:=⟨_,rfl⟩;rw [hE] at hne ⊢;obtain ⟨bm,off,Rq,Jq,Bq,X,Y,Z,aq⟩:=Q3s (H2.out.members.ext vq.out) yz;have hA:=aq.addr;subst hA;have Fx:=hid aq.e0;have HE1':=hid aq.e1;have Zw:=hid aq.e2;have D3:=hid aq.e3;have UQ:=hid aq.e4;have Uz:=hid (fun W' hW=>aq.mem (W:=W') hW);have h6:=qg.tides;have Og:=hid (fun t (ht:t <= s.ships.length)=>X5u qg yz ht);obtain ⟨m,hm⟩:∃ m,Q2a s i=m:=⟨_,rfl⟩;have aY:=hid (fun k (hk:k < s.ships.length) h0 h1=>J1y (s:=s) (i:=i) (k:=k) hk h0 h1);have ZG:=hid (fun h0=>Z9b (s:=s) (i:=i) h0);rw [hm] at Uz Og aY ZG;obtain ⟨nm,vj⟩:∃ x,Q1t s.members i=x:=⟨_,rfl⟩;obtain ⟨wt,Vj⟩:∃ x,Q0o s.members i=x:=⟨_,rfl⟩;obtain ⟨lc,mj⟩:∃ x,(Q0c s.members i).length=x:=⟨_,rfl⟩;obtain ⟨lo,Lx⟩:∃ x,(Q0z s.members i).length=x:=⟨_,rfl⟩;obtain ⟨li,yx⟩:∃ x,(Q1g s.members i).length=x:=⟨_,rfl⟩;rw [vj] at Fx Uz;rw [Vj] at HE1' Uz;rw [mj] at Zw Uz;rw [Lx] at D3 Uz;rw [yx] at UQ Uz;have J1:(i:Int) < s.members.length:=by omega
    have uz:Hid (0 < s.ships.length /\ s.ships.length <= 6):=hid h6;obtain ⟨T,hT⟩:∃ T,s.ships.length=T:=⟨_,rfl⟩;rw [hT] at L8 Og aY ZG uz ⊢;obtain ⟨lim,Uj⟩:∃ l,s.limit=l:=⟨_,rfl⟩;rw [Uj] at L8 aY ZG ⊢;have Pp:Hid (i < s.members.length):=hid yz;obtain ⟨M,hM⟩:∃ M,s.members.length=M:=⟨_,rfl⟩;rw [hM] at L8 J1 Pp ⊢;have c1:w5.cell? ⟨gs,1,none⟩=some (.slice A T Uq):=L8.out.cell 1;clear he hE qg JX Yv aq hm vj Vj mj Lx yx h6 hT Uj hM yz Mz H2 HS Vk
    gi_wp2_with fail
    refine wpIn_label ?_
    gi_wp2_with fail
    refine X9i 25 T 0 [9,10,25,26,27,28,29,30,44,45,47] [] (fun k a Ds W=>a.tmps.getD 25 undef=.int .i64 k /\ k <= T /\ (∀ t,t < k -> m.X6t lim (t + 1)=true) /\ Marked W Ds /\ (∀ D,D ∈ Ds -> w5.heap.size <= D) /\ Ext w5 W) (fun k a Ds w h=>by rw [h.1]; rfl) rfl (by kernel_rfl) ⟨rfl,Nat.zero_le _,fun t h=>absurd h (Nat.not_lt_zero _),Marked.nil _,(fun D h=>absurd h List.not_mem_nil),Ext.refl _⟩ ?round
    rintro k u Ds wr ⟨GW,hk,L6,N9,K6,Dq⟩ K hK;simp only [X6e,List.foldl_cons,List.foldl_nil,List.setIfInBounds_toArray,List.set_cons_succ,List.set_cons_zero] at GW ⊢;replace GW:u 25=.int .i64 k:=GW;rw [GW];have qd:=hid L6;have YG:=hid N9;have pX:=hid K6;have rq:=hid Dq;have Ra:=hid hK;clear GW L6 N9 K6 c1 hK
    by_cases Tq:k < T
    . have Lj:(k:Int) < T:=by omega
      have Np:=uz.out;have uZ:IntKind.i64.wrap ((k:Int) + 1)=((k + 1:Nat):Int):=by rw [Q3b _ (by omega) (by omega)]; omega
      have Od:w5.heap.size <= wr.heap.size:=Dq.size;clear Dq
      gi_wp2_with (refine ⟨trivial,?_⟩; gi_at_call 112; refine halted ?_)
      unfold Q1o;clear Sq W K0 K1;obtain ⟨W,Nq,k0,Sq,eW⟩:=Q1y wr 4 #[.bool false];rw [Nq];clear Nq;have e1:((k:Int) + 1)=((k + 1:Nat):Int):=by omega
      rw [e1];refine (callsIn_wide.2 (Y6x W ((k + 1:Nat):Int))).mono ?_;rintro e w' ⟨rfl,T0,oQ,Vy⟩;rw [eW] at T0 oQ ⊢;replace k0:=k0.ext Vy;have HXW':=hid (Sq.out.trans Vy);obtain ⟨gb,Jw⟩:∃ x,wr.heap.size=x:=⟨_,rfl⟩;have B9:=hid Jw;rw [Jw] at k0 T0 oQ ⊢;obtain ⟨tp,pd⟩:∃ t,k + 1=t:=⟨_,rfl⟩;have Ei:=hid pd;rw [pd] at T0 ⊢;have AX:tp <= 8:=by omega
      have od:X2r m lim tp 0=false:=rfl;clear Vy Jw Sq eW e1 pd uZ
      gi_wp2_with fail
      refine X2w (n:=9) rfl (by omega) (gf:=170) (lb:=#[.pointer (some ⟨gb + 1,0,none⟩)]) rfl trivial (enters_of func170 (by kernel_rfl) rfl)
       (X5p _ (gb + 1) tp w' AX T0) rfl (fun h1 h2=>Eq.trans h2 h1) (fun h=>h.same (by omega)) (fun h ho=>h.own ho)
       (fun j W=>Blk W gb 4 #[.bool (X2r m lim tp j)] /\ Below gb w' W /\ Marked W Ds)
       (fun j A B ⟨h1,h2,h3⟩ hx=>⟨h1.ext hx,Below.trans h2 (hx.mono (by have:=h1.lt; omega)),h3.ext hx⟩)
       (fun h ⟨h1,h2,h3⟩=>⟨h.blk h1,Below.trans h2 (h.below (by omega)),h3.turns (fun D hD=>by have:=YG.out.lt hD; have:=B9.out; omega) h⟩)
       ⟨k0,Below.refl _ _,YG.out.ext HXW'.out⟩ ?frm ?assign ?body ?done
      case assign =>
       intro l x W K hK
       gi_wp2
       exact hK
      case done =>
       rintro D W hD ⟨hb,hB,m6⟩ RW;have pq:=HXW'.out.size;have Gx:Ext w W:=vq.out.trans (rq.out.trans (Below.trans HXW'.out (hB.mono (by have:=B9.out; omega))))
       have Cq:Ext w5 W:=rq.out.trans (Below.trans HXW'.out (hB.mono (by have:=B9.out; omega)))
       have l6:Marked W (D :: Ds):=m6.cons RW fun E hE=>by have:=YG.out.lt hE; omega
       have j6:∀ E,E ∈ D :: Ds -> w5.heap.size <= E:=fun E hE=>by
        rcases List.mem_cons.1 hE with rfl | hE
        . omega
        . exact pX.out E hE
       have ZQ:X2r m lim tp (2 ^ tp)=m.X6t lim (k + 1):=by rw [<- Ei.out]; rfl
       rw [ZQ] at hb;have md:=hid Gx;have pg:=hid Cq;have j8:=hid l6;have i8:=hid j6;clear Gx Cq l6 j6 ZQ m6 RW pq hB;have Xq:=hb.cell 0;cases L6:m.X6t lim (k + 1) with
       | false =>
         rw [L6] at Xq;have ld:X0k s i=some k:=aY.out k Tq qd.out L6;clear L6 hb
         gi_wp2
         change LeavesInM Fence.wide 9 prog Tryz.f41 _ _ (marks (D :: Ds)) _ _;refine Q6k (n0:=w.heap.size) (fun W=>Ext w W) (fun A B h ht=>Below.trans h (ht.below (Nat.le_refl _))) ?_ (D :: Ds) _ j8.out (fun E h=>Nat.le_trans vq.out.size (i8.out E h)) md.out;intro W hW;exact ⟨_,results_tmp2 rfl _ _ _,by rw [Gi.out,Fi.out,ld]; rfl,hW⟩
       | true =>
         rw [L6] at Xq;have kd:=hid (fun t (ht:t < k + 1)=>by
          rcases Nat.lt_or_ge t k with h | h
          . exact qd.out t h
          . have e:t=k:=by omega
            subst e; exact L6:∀ t,t < k + 1 -> m.X6t lim (t + 1)=true)
         clear L6 hb
         gi_wp2
         exact Ra.out _ _ (D :: Ds) Tq (by kernel_rfl) rfl ⟨rfl,Tq,kd.out,j8.out,i8.out,pg.out⟩
      case body =>
       rintro l j v W hj ⟨hb,hB,m6⟩ hv;have pq:=HXW'.out.size;have d6:Ext w5 W:=rq.out.trans (Below.trans HXW'.out (hB.mono (by have:=B9.out; omega)))
       have dq:gs + 1 + 1 <= gb:=by have:=Qp.out; have:=rq.out.size; have:=B9.out; omega
       have dx:=hid (L8.out.ext d6);have Rk:=hid (Rp.out.ext d6);have pg:=hid d6;have lk:=hid hb;have b8:=hid m6;have O5:=hid hB;have jk:=X1m j tp;have yj:=Y7q m lim tp j;obtain ⟨cl,hcl⟩:∃ x,Q5l j tp=x:=⟨_,rfl⟩;rw [hcl] at hv jk yj;have yX:=hid hv;obtain ⟨Av,cv,rfl,-⟩:=hv.shape;have az:=hid (fun (w1:World) (hx:Ext W w1)=>X1l w1 _ _ m lim cl (Uz.out w1 (d6.trans hx)) ((yX.out.bools (by omega)).ext hx) (by omega) (by rw [jk]; exact Og.out tp (by have:=Ei.out; omega)))
       obtain ⟨kp,Oj⟩:∃ x,m.keeps lim cl=x:=⟨_,rfl⟩;rw [Oj] at yj az;obtain ⟨st,EW⟩:∃ x,X2r m lim tp j=x:=⟨_,rfl⟩;rw [EW] at yj lk;have Pg:=hid yj;have TX:Hid (gb + 1 + 1 <= W.heap.size):=hid (by have:=hB.size; omega)
       have Vq:=(Ext.refl W).drew;have Mp:gb < W.heap.size:=by have:=TX.out; omega
       have Q0:=hid dq;clear hv hcl Oj EW yj hb m6 pq d6 jk hB;cases st with
       | true =>
         gi_wp2
         refine Flow.Z5i [.w,.p,.p,.w,.w,.p,.w,.p,.w,.p,.w,.p,.last] [0,1,2,3,4,5,6,7,8,9,10,11,12] [[],[0],[0,1],[0,1,2],[0,1],[0,1,2,3,4],[0,1,2,3,4,5],[0,1],[0,1,7],[0,1],[0,1,2,3,4,5,6,7,8,9],[0,1,2,3,4,5,6,7,8,9,10],[0,1,2,3,4,5,6,7,8,9,10,11]] [12]
          [.c 0 (.bool true),.c 1 (.bool true),.c 2 (undef),.c 3 (undef),.c 4 (undef),.c 5 (undef),.c 6 (undef),.c 7 (undef),.c 8 (undef),.c 9 (undef),.c 10 (undef),.c 11 (.bool true),.none]
          [fun v w1 w'=>w'=w1.setCell ⟨gb,0,none⟩ (.bool true)] (by kernel_rfl) (by kernel_rfl) rfl (by kernel_rfl) ⟨?g0,?g1,?g2,?g3,?g4,?g5,?g6,?g7,?g8,?g9,?g10,?g11,?g12,trivial⟩ ?post
         case g0=>
          intro v w1 hx;intro bb hbb;subst hbb;have n0:w1.cell? ⟨gb,0,none⟩=some (.bool true):=(lk.out.ext (Vq.trans hx)).cell 0;intro K hK;go_simp;exact hK _ _ (Ext.refl _) rfl
         case g1 | g11=>
          intro v w1 hx;(repeat intro (zq:v _=_));intro bb hbb;subst hbb;refine ⟨_,fun w=>?_,rfl⟩;go_simp
         case g2 | g3 | g4 | g5 | g6 | g7 | g8 | g9 | g10=>
          intro v w1 hx;(repeat intro (zq:v _=_));intro bb hbb;exact Flow.Q1l (d:=33) rfl rfl fzb11 fzc11 rfl
         case g12=>
          intro v w1 hx;(repeat intro (zq:v _=_));intro wl hT;obtain rfl:wl=w1:=hT;intro bb hbb;intro K hK;have o1:bb.eval (.tmp 10)=.pointer (some ⟨gb,0,none⟩):=fze11
          have o2:bb.eval (.tmp 43)=.bool true:=by rw [hbb]; dsimp only; (try simp (discharger:=decide) only [eval_put_ne]); rw [Q0a (by simp only [size_put]; exact (by decide:43 < 50))]; assumption
          exact Q3z (.tmp 10) (.tmp 43) rfl Z5e o1 o2 rfl rfl (lk.out.ext (Vq.trans hx)) Nat.zero_lt_one (fun vv=>hK _ _ rfl)
         case post =>
          intro v w1 hx;(iterate 12 intro (zq:v _=_));intro w2 hE;replace hE:(fun v w1 w'=>w'=w1.setCell ⟨gb,0,none⟩ (.bool true)) v w1 w2:=hE;simp only [Flow.acts,Act.put];go_simp;subst hE;have HX:=hid (Vq.trans hx);clear hx Vq;(repeat clear zq)
          gi_wp2
          exact ⟨(Y1f HX.out).trans (KeepsOthers.setCell _ _ _),(Q3x _ _ _ _ (by show gb + 1 ≠ gb; omega)).trans (Below.block HX.out _ (by have:=TX.out; omega)),
           by rw [Pg.out]; exact (lk.out.ext HX.out).set 0 _,(Below.trans O5.out (HX.out.mono (by omega))).setCell (p:=⟨gb,0,none⟩) (Nat.le_refl _) _,(b8.out.ext HX.out).keeps (KeepsOthers.setCell _ _ _)⟩
       | false =>
         gi_wp2
         refine Flow.Z5i [.w,.p,.p,.w,.w,.p,.w,.p,.w,.p,.w,.p,.last] [0,1,2,3,4,5,6,7,8,9,10,11,12] [[],[0],[0,1],[0,1,2],[0,1],[0,1,2,3,4],[0,1,2,3,4,5],[0,1],[0,1,7],[0,1],[0,1,2,3,4,5,6,7,8,9],[0,1,2,3,4,5,6,7,8,9,10],[0,1,2,3,4,5,6,7,8,9,10,11]] [12]
          [.c 0 (.bool false),.c 1 (.bool false),.c 2 (.pointer (some ⟨gs,2,none⟩)),.c 3 (.slice (some ⟨bm,off,none⟩) M Wq),.c 4 (.int .i64 (i:Int)),.c 5 (.pointer (some ⟨bm,off + i * 5,none⟩)),.c 6 (.agg #[.string nm,.int .i64 wt,.slice X lc Rq,.slice Y lo Jq,.slice Z li Bq]),.c 7 (.pointer (some ⟨gs,0,none⟩)),.c 8 (.int .i64 lim),.c 9 (.slice Av cl.length cv),.c 10 (.bool kp),.c 11 (.bool kp),.none]
          [fun v w1 w'=>w'=w1.setCell ⟨gb,0,none⟩ (.bool kp)] (by kernel_rfl) (by kernel_rfl) rfl (by kernel_rfl) ⟨?g0,?g1,?g2,?g3,?g4,?g5,?g6,?g7,?g8,?g9,?g10,?g11,?g12,trivial⟩ ?post
         case g0=>
          intro v w1 hx;intro bb hbb;subst hbb;have n0:w1.cell? ⟨gb,0,none⟩=some (.bool false):=(lk.out.ext (Vq.trans hx)).cell 0;intro K hK;go_simp;exact hK _ _ (Ext.refl _) rfl
         case g1 | g11=>
          intro v w1 hx;(repeat intro (zq:v _=_));intro bb hbb;subst hbb;refine ⟨_,fun w=>?_,rfl⟩;go_simp
         case g2 | g5 | g7 | g9=>
          intro v w1 hx;(repeat intro (zq:v _=_));intro bb hbb;refine Flow.Q0j (d:=33) rfl rfl fzb11 fzc11 ?_
          subst hbb;refine ⟨_,fun w=>?_,rfl⟩;go_simp
         case g3 | g4 | g8=>
          intro v w1 hx;(repeat intro (zq:v _=_));intro bb hbb;refine Flow.Q0j (d:=33) rfl rfl fzb11 fzc11 ?_
          subst hbb;have n0:w1.cell? ⟨gs,2,none⟩=some (.slice (some ⟨bm,off,none⟩) M Wq):=(dx.out.ext (Vq.trans hx)).cell 2;have n1:w1.cell? ⟨gs + 1,0,none⟩=some (.int .i64 (i:Int)):=(Rk.out.ext (Vq.trans hx)).cell 0;have n2:w1.cell? ⟨gs,0,none⟩=some (.int .i64 lim):=(dx.out.ext (Vq.trans hx)).cell 0;intro K hK;go_simp;exact hK _ _ (Ext.refl _) rfl
         case g6=>
          intro v w1 hx;(repeat intro (zq:v _=_));intro bb hbb;have f0:=(pg.out.trans (Vq.trans hx)).cell Fx.out;have f1:=(pg.out.trans (Vq.trans hx)).cell HE1'.out;have f2:=(pg.out.trans (Vq.trans hx)).cell Zw.out;have f3:=(pg.out.trans (Vq.trans hx)).cell D3.out;have f4:=(pg.out.trans (Vq.trans hx)).cell UQ.out;refine Flow.Q0j (d:=33) rfl rfl fzb11 fzc11 ?_
          subst hbb;intro K hK;go_simp;exact hK _ _ (Ext.refl _) rfl
         case g10=>
          intro v w1 hx;(repeat intro (zq:v _=_));intro bb hbb;refine Flow.Q0j (d:=33) rfl rfl fzb11 fzc11 ?_
          subst hbb;intro K hK;go_simp;refine Q0d (az.out w1 (Vq.trans hx)) ?_;rintro e w2 ⟨rfl,Mq⟩;exact ⟨_,rfl,hK _ _ Mq rfl⟩
         case g12=>
          intro v w1 hx;(repeat intro (zq:v _=_));intro wl hT;obtain rfl:wl=w1:=hT;intro bb hbb;intro K hK;have o1:bb.eval (.tmp 10)=.pointer (some ⟨gb,0,none⟩):=fze11
          have o2:bb.eval (.tmp 43)=.bool kp:=by rw [hbb]; dsimp only; (try simp (discharger:=decide) only [eval_put_ne]); rw [Q0a (by simp only [size_put]; exact (by decide:43 < 50))]; assumption
          exact Q3z (.tmp 10) (.tmp 43) rfl Z5e o1 o2 rfl rfl (lk.out.ext (Vq.trans hx)) Nat.zero_lt_one (fun vv=>hK _ _ rfl)
         case post =>
          intro v w1 hx;(iterate 12 intro (zq:v _=_));intro w2 hE;replace hE:(fun v w1 w'=>w'=w1.setCell ⟨gb,0,none⟩ (.bool kp)) v w1 w2:=hE;simp only [Flow.acts,Act.put];go_simp;subst hE;have HX:=hid (Vq.trans hx);clear hx Vq;(repeat clear zq)
          gi_wp2
          exact ⟨(Y1f HX.out).trans (KeepsOthers.setCell _ _ _),(Q3x _ _ _ _ (by show gb + 1 ≠ gb; omega)).trans (Below.block HX.out _ (by have:=TX.out; omega)),
           by rw [Pg.out]; exact (lk.out.ext HX.out).set 0 _,(Below.trans O5.out (HX.out.mono (by omega))).setCell (p:=⟨gb,0,none⟩) (Nat.le_refl _) _,(b8.out.ext HX.out).keeps (KeepsOthers.setCell _ _ _)⟩
    . have Lj:¬ (k:Int) < T:=by omega
      have Yd:k=T:=by omega
      subst Yd;clear Dq
      gi_wp2_with fail
      have ld:X0k s i=none:=ZG.out qd.out;change LeavesInM Fence.wide 9 prog Tryz.f41 _ _ (marks Ds) _ _;refine Q6k (n0:=w.heap.size) (fun W=>Ext w W) (fun A B h ht=>Below.trans h (ht.below (Nat.le_refl _))) ?_ Ds _ YG.out (fun D h=>Nat.le_trans vq.out.size (pX.out D h)) (vq.out.trans rq.out);intro W hW;exact ⟨_,results_tmp2 rfl _ _ _,by rw [Gi.out,Fi.out,ld]; rfl,hW⟩
  . have s7:Hid (X8w s n=0):=hid (if_neg he)
    have Pk:Hid (Y1v s n=Q6v s n):=hid (if_neg he);have hne:(Q6v s n != 0)=true:=by simp [he]
    clear he
    gi_wp2
    change LeavesInM Fence.wide 9 prog Tryz.f41 _ _ (marks []) _ _;refine Q6k (n0:=w.heap.size) (fun W=>Ext w W) (fun A B h ht=>Below.trans h (ht.below (Nat.le_refl _))) ?_ [] _ (Marked.nil _) (fun D h=>absurd h List.not_mem_nil) vq.out;intro W hW;exact ⟨_,results_tmp2 rfl _ _ _,by rw [s7.out,Pk.out]; rfl,hW⟩
end Go.Proofs
namespace Go.Tw
set_option maxRecDepth 100000
theorem J6b:Q0s.err=0:=by decide
theorem J8y:Q0s.hist=[[0],[0,0],[0,1]]:=by decide
end Go.Tw
namespace Go.Proofs
open Go.RowKit Go.Tw Go.Flow Tryz
set_option maxRecDepth 100000
def rlA:List Rul:=X3t false true false
def rlB:List Rul:=X3t true true false
def J0s:ByteArray:=⟨#[48,32,111,112,101,110,10,48,32,48,32,99,108,111,115,101,10,48,32,49,32,111,112,101,110,10]⟩
theorem Q2l:Q3v Q0s:=⟨by decide,by decide,fun i hi=>by
 have:i=0 ∨ i=1 ∨ i=2:=by simp [Q0s] at hi; omega
 rcases this with rfl | rfl | rfl <;> exact ⟨by decide,by decide,by decide,by decide⟩⟩
theorem Z1d:Q3v Q7y:=⟨by decide,by decide,fun i hi=>by
 have:i=0:=by simp [Q7y] at hi; omega
 subst this; exact ⟨by decide,by decide,by decide,by decide⟩⟩
theorem X5b:Q0s.hist.length <= 9:=by rw [J8y]; decide
theorem J9q:J4p Q0s=[[0],[0,0],[0,1]]:=by kernel_rfl
theorem J1a:Q1j Q0s rlA=0:=by kernel_rfl
theorem J6h:Q1j Q0s rlB=0:=by kernel_rfl
theorem J7e:X5o Q0s rlA 0=0:=by kernel_rfl
theorem J7a:J4u Q0s rlA 0=[false,true]:=by kernel_rfl
theorem J8c:J3y Q0s rlA 0=[20,10]:=by kernel_rfl
theorem J9w:Q5c Q0s rlA=[0,2]:=by kernel_rfl
theorem J5w:Y0d Q0s rlA=⟨3,4⟩:=by kernel_rfl
theorem J9u:X3r Q0s rlA=2:=by kernel_rfl
theorem J8b:Z5o Q0s rlB=34:=by kernel_rfl
theorem K0g:J5l Q0s=4:=by kernel_rfl
theorem K2q:Y5x Q0s 4=(6,34,0):=by kernel_rfl
theorem K1k:Z0c Q0s 4=rlB:=by kernel_rfl
theorem K2s:Y5x Q0s 3=(2,14,0):=by kernel_rfl
theorem K2f:Y4b Q0s 0=[false,true]:=by kernel_rfl
theorem K1y:Z1p Q0s 0=0:=by kernel_rfl
theorem K1i:Y5l Q0s rlB=3:=by kernel_rfl
theorem K0n:Q5w Q0s 5=0:=by kernel_rfl
theorem K0i:Q2w Q0s 5=[⟨[0],2⟩,⟨[1,2],2⟩]:=by kernel_rfl
theorem K1t:X8w Q7y 0=1:=by kernel_rfl
theorem K1m:Y1v Q7y 0=0:=by kernel_rfl
theorem K2h:Q8d rlA=0:=by kernel_rfl
theorem K1n:Z5p rlA=J0s:=by kernel_rfl
theorem J9l (w:World) (u:Value) (hu:Q0g w u Q0s) :
    Calls prog 42 #[u] w fun e w'=>∃ x,e=.returned (.tuple #[x,.int .i64 0]) /\ Q4g w' x [[0],[0,0],[0,1]] /\ Ext w w':=by
 have h:=Y2t w u Q0s hu Q2l;rw [J6b,J9q] at h;exact h
theorem K0e (w:World) (u p:Value) (hu:Q0g w u Q0s) (hp:Q0m w p rlA) :
    Calls prog 57 #[u,p,.int .i64 0] w fun e w'=>∃ x y,e=.returned (.tuple #[.agg #[x,y],.int .i64 0]) /\ Q1f w' x [false,true] /\ Q0e w' y [20,10] /\ Ext w w':=by
 refine (J1r w u p Q0s rlA 0 hu hp Q2l (by decide)).mono ?_
 rintro e w' ⟨⟨x,y,rfl,h1,h2⟩,hx⟩;rw [J7a] at h1;rw [J8c] at h2;exact ⟨x,y,by rw [J7e],h1,h2,hx⟩
theorem J9h (w:World) (u p:Value) (hu:Q0g w u Q0s) (hp:Q0m w p rlA) :
    Calls prog 33 #[u,p] w fun e w'=>∃ x,e=.returned (.tuple #[x,.int .i64 0]) /\ Q0e w' x [0,2] /\ Ext w w':=by
 have h:=X3o w u p Q0s rlA hu hp Q2l (by decide)
 rw [J1a,J9w] at h;exact h
theorem J4a (w:World) (u p:Value) (hu:Q0g w u Q0s) (hp:Q0m w p rlA) :
    Calls prog 64 #[u,p] w fun e w'=>e=.returned (.tuple #[.agg #[.int .i64 3,.int .i64 4],.int .i64 0]) /\ Ext w w':=by
 have h:=Z0b w u p Q0s rlA hu hp Q2l (by decide)
 rw [J1a,J5w] at h;exact h
theorem K0v (w:World) (u p:Value) (hu:Q0g w u Q0s) (hp:Q0m w p rlA) :
    Calls prog 37 #[u,p] w fun e w'=>e=.returned (.tuple #[.int .i64 2,.int .i64 0]) /\ Ext w w':=by
 have h:=Y6i w u p Q0s rlA hu hp Q2l (by decide)
 rw [J1a,J9u] at h;exact h
theorem J7f (w:World) (u p:Value) (hu:Q0g w u Q0s) (hp:Q0m w p rlB) :
    Calls prog 38 #[u,p] w fun e w'=>e=.returned (.tuple #[.int .i64 34,.int .i64 0]) /\ Ext w w':=by
 have h:=Z7d w u p Q0s rlB hu hp Q2l (by decide)
 rw [J6h,J8b] at h;exact h
theorem J9o (w:World) (u:Value) (hu:Q0g w u Q0s) :
    Calls prog 19 #[u] w fun e w'=>e=.returned (.tuple #[.int .i64 4,.int .i64 0]) /\ Ext w w':=by
 have h:=J2h w u Q0s hu Q2l X5b;rw [J6b,K0g] at h;exact h
theorem J7y (w:World) (u:Value) (hu:Q0g w u Q0s) :
    Calls prog 21 #[u,.int .i64 4] w fun e w'=>∃ x,e=.returned (.tuple #[.agg #[x],.int .i64 6,.int .i64 34,.int .i64 0]) /\ Q1d w' x rlB /\ Ext w w':=by
 refine (Y7w w u Q0s 4 hu Q2l X5b).mono ?_;rintro e w' ⟨⟨x,rfl,h1⟩,hx⟩;exact ⟨x,by rw [K2q],by rw [K1k] at h1; exact h1,hx⟩
theorem J8l (w:World) (u:Value) (hu:Q0g w u Q0s) :
    Calls prog 21 #[u,.int .i64 3] w fun e w'=>∃ x,e=.returned (.tuple #[.agg #[x],.int .i64 2,.int .i64 14,.int .i64 0]) /\ Q1d w' x (Z0c Q0s 3) /\ Ext w w':=by
 refine (Y7w w u Q0s 3 hu Q2l X5b).mono ?_;rintro e w' ⟨⟨x,rfl,h1⟩,hx⟩;exact ⟨x,by rw [K2s],by exact h1,hx⟩
theorem J8f (w:World) (u:Value) (hu:Q0g w u Q0s) :
    Calls prog 50 #[u,.int .i64 0] w fun e w'=>∃ x,e=.returned (.tuple #[x,.int .i64 1,.int .i64 0]) /\ Q1f w' x [false,true] /\ Ext w w':=by
 have h:=Z6u w u Q0s 0 hu Q2l;rw [K2f,K1y] at h;exact h
theorem J5q (w:World) (u p:Value) (hu:Q0g w u Q0s) (hp:Q0m w p rlB) :
    Calls prog 65 #[u,p] w fun e w'=>e=.returned (.tuple #[.int .i64 3,.int .i64 0]) /\ Ext w w':=by
 have h:=Z4e w u p Q0s rlB hu hp Q2l (by decide)
 rw [J6h,K1i] at h;exact h
theorem J5a (w:World) (u:Value) (hu:Q0g w u Q0s) :
    Calls prog 39 #[u,.int .i64 5] w fun e w'=>∃ x,e=.returned (.tuple #[x,.int .i64 0]) /\ Q1q w' x [⟨[0],2⟩,⟨[1,2],2⟩] /\ Ext w w':=by
 have h:=Y1u w u Q0s 5 hu Q2l;rw [K0n,K0i] at h;exact h
theorem J4w (w:World) (u:Value) (hu:Q0g w u Q7y) :
    Calls prog 41 #[u,.int .i64 0] w fun e w'=>e=.returned (.tuple #[.int .i64 1,.int .i64 0]) /\ Ext w w':=by
 have h:=Z2g w u Q7y 0 hu Z1d;rw [K1t,K1m] at h;exact h
theorem J7z (w:World) (p:Value) (hp:Q0m w p rlA) (hW:Words w) :
    Calls prog 81 #[p] w fun e w'=>e=.returned (.tuple #[.string J0s,.int .i64 0]) /\ Ext w w':=by
 have h:=Z7a w p rlA hp (by decide) hW
 rw [K1n,K2h] at h;exact h
theorem Y0u (w:World) (u v:Value) (l:List Int) (hu:Q0e w u l) (hv:Q0e w v l) :
    Calls prog 54 #[u,v] w fun e w'=>e=.returned (.bool true) /\ Ext w w':=by
 have h:=Q3k w u v _ _ hu hv;rw [decide_eq_true rfl] at h;exact h
theorem J1g (w:World) (u v:Value) (l:List Bool) (hu:Q1f w u l) (hv:Q1f w v l) :
    Calls prog 55 #[u,v] w fun e w'=>e=.returned (.bool true) /\ Ext w w':=by
 have h:=Y6a w u v _ _ hu hv;rw [decide_eq_true rfl] at h;exact h
theorem J7q (w:World) (u v:Value) (l:List Rul) (hu:Q0m w u l) (hv:Q0m w v l) :
    Calls prog 48 #[u,v] w fun e w'=>e=.returned (.bool true) /\ Ext w w':=by
 have h:=X2j w u v _ _ hu hv;rw [show X3d l l=true from decide_eq_true rfl] at h
 exact h
theorem J7v (w:World) (u v:Value) (l:List Grp) (hu:Q1q w u l) (hv:Q1q w v l) :
    Calls prog 74 #[u,v] w fun e w'=>e=.returned (.bool true) /\ Ext w w':=by
 have h:=Q8i w u v _ _ hu hv;rw [show Q4w l l=true from decide_eq_true rfl] at h
 exact h
theorem Y7s {w:World} {g:Nat} {T:TypeId} {cs:Array Value} {l:List Bool} {n:Nat} (h:Blk w g T cs) (hc:cs=(l.map Value.bool).toArray) (hl:l.length=n) (hn:n <= 1000):Q1f w (.slice (some ⟨g,0,none⟩) n n) l:=by
 subst hc;refine X5a (k:=1) h hl hn (by simp [hl]) fun i hi=>?_
 show (List.map Value.bool l).toArray.getD (i * 1 + 0) undef=_;simp [hi]
theorem Y5n (w:World):(binOp .neq 107 (.agg #[.int .i64 3,.int .i64 4]) (.agg #[.int .i64 3,.int .i64 4])).run prog w=.ok (.bool false) w:=by kernel_rfl
theorem Z8p:J0s.toList=[48,32,111,112,101,110,10,48,32,48,32,99,108,111,115,101,10,48,32,49,32,111,112,101,110,10]:=by simp [J0s,go_sem]
theorem J6z:(J0s.toList == [48,32,111,112,101,110,10,48,32,48,32,99,108,111,115,101,10,48,32,49,32,111,112,101,110,10])=true:=by rw [Z8p]; decide
end Go.Proofs
namespace Go.Proofs
open Go.RowKit Go.Tw Go.Flow
attribute [local go_sem ↓] Y5n
def At (w:World) (p:Addr) (v:Value):Prop:=w.cell? p=some v
theorem At.ext {w w':World} {p:Addr} {v:Value} (h:At w p v) (hx:Ext w w'):At w' p v:=hx.cell h
theorem J8r {w:World} {g:Nat} {T:TypeId} {x y z:Value} (h:Blk w g T #[.string ⟨#[122]⟩,.int .i64 1,x,y,z]) (hx:Q0e w x [0,0]) (hy:Q0e w y [40,40]) (hz:Q0e w z [20,20]):X0m w (.slice (some ⟨g,0,none⟩) 1 1) Q7y.members :=
 X5a h rfl (by omega) rfl fun i hi=>by
  have:i=0:=by simp [Q7y] at hi; omega
  subst this;exact ⟨rfl,rfl,hx,hy,hz,Z4y _⟩
theorem J5v {w:World} {g:Nat} {T:TypeId} {x y:Value} (h:Blk w g T #[x,.int .i64 2,y,.int .i64 2]) (hx:Q0e w x [0]) (hy:Q0e w y [1,2]):Q1q w (.slice (some ⟨g,0,none⟩) 2 2) [⟨[0],2⟩,⟨[1,2],2⟩] :=
 X5a h rfl (by omega) rfl fun i hi=>by
  have:i=0 ∨ i=1:=by simp at hi; omega
  rcases this with rfl | rfl
  . exact ⟨hx,rfl⟩
  . exact ⟨hy,rfl⟩
theorem X0j (w:World) (hW:Words w) :
    Calls Tryz.prog 18 #[] w fun e w'=>e=.returned (.bool true) /\ Ext w w':=by
 have Lq:=hid (Ext.refl w);have uq:=hid hW;clear hW;go_enter Tryz.func18,Tryz.ntmps18;go_wp2_with fail;refine (Q3h _).mono ?_;rintro e w1 ⟨u1,rfl,hu,hx⟩;have Zq:Ext w w1:=hx;replace Lq:=hid (Lq.out.trans Zq);replace uq:=hid (uq.out.ext Zq);clear hx Zq;have HU:=hid hu;clear hu;go_wp2_with fail;refine (J9l _ _ HU.out).mono ?_;rintro e w2 ⟨xh,rfl,hr,hx⟩;have Zq:Ext w1 w2:=hx;replace Lq:=hid (Lq.out.trans Zq);clear HU;replace uq:=hid (uq.out.ext Zq);clear hx Zq;have FH:=hid hr;clear hr;go_wp2_with fail;refine (Q3h _).mono ?_;rintro e w3 ⟨u2,rfl,hu,hx⟩;have Zq:Ext w2 w3:=hx;replace Lq:=hid (Lq.out.trans Zq);replace uq:=hid (uq.out.ext Zq);replace FH:=hid (FH.out.ext Zq);clear hx Zq;have HU:=hid hu;clear hu;go_wp2_with fail;refine (Q6p _ false true false).mono ?_;rintro e w4 ⟨p3,rfl,hp,hx⟩;have Zq:Ext w3 w4:=hx;replace Lq:=hid (Lq.out.trans Zq);replace uq:=hid (uq.out.ext Zq);replace FH:=hid (FH.out.ext Zq);replace HU:=hid (HU.out.ext Zq);clear hx Zq;have HP:=hid hp;clear hp;go_wp2_with fail;refine (K0e _ _ _ HU.out HP.out).mono ?_;rintro e w5 ⟨xa,xb,rfl,ha,hb,hx⟩;have Zq:Ext w4 w5:=hx;replace Lq:=hid (Lq.out.trans Zq);clear HU HP;replace uq:=hid (uq.out.ext Zq);replace FH:=hid (FH.out.ext Zq);clear hx Zq;obtain ⟨Aa,ca,rfl,-,-,-⟩:=ha.opened;obtain ⟨Ab,cb,rfl,-,-,-⟩:=hb.opened;have FA:=hid ha;clear ha;have FB:=hid hb;clear hb;go_wp2_with fail;change Calls _ _ _ (w5.alloc (.cells #[.slice Aa 2 ca,.slice Ab 2 cb] 96)) _;obtain ⟨W,Nq,k0,Sq,eW⟩:=Q1y w5 96 #[.slice Aa 2 ca,.slice Ab 2 cb];rw [Nq];clear Nq;refine (Q3h _).mono ?_;rintro e w6 ⟨u4,rfl,hu,hx⟩;have Zq:Ext w5 w6:=Sq.out.trans hx;replace Lq:=hid (Lq.out.trans Zq);replace uq:=hid (uq.out.ext Zq);replace FH:=hid (FH.out.ext Zq);replace FA:=hid (FA.out.ext Zq);replace FB:=hid (FB.out.ext Zq);have BC:=hid (k0.ext hx);clear hx Zq Sq eW k0;have HU:=hid hu;clear hu;go_wp2_with fail;refine (Q6p _ false true false).mono ?_;rintro e w7 ⟨p5,rfl,hp,hx⟩;have Zq:Ext w6 w7:=hx;replace Lq:=hid (Lq.out.trans Zq);replace uq:=hid (uq.out.ext Zq);replace FH:=hid (FH.out.ext Zq);replace FA:=hid (FA.out.ext Zq);replace FB:=hid (FB.out.ext Zq);replace BC:=hid (BC.out.ext Zq);replace HU:=hid (HU.out.ext Zq);clear hx Zq;have HP:=hid hp;clear hp;go_wp2_with fail;refine (J9h _ _ _ HU.out HP.out).mono ?_;rintro e w8 ⟨xk,rfl,hk,hx⟩;have Zq:Ext w7 w8:=hx;replace Lq:=hid (Lq.out.trans Zq);clear HU HP;replace uq:=hid (uq.out.ext Zq);replace FH:=hid (FH.out.ext Zq);replace FA:=hid (FA.out.ext Zq);replace FB:=hid (FB.out.ext Zq);replace BC:=hid (BC.out.ext Zq);clear hx Zq;have FK:=hid hk;clear hk;go_wp2_with fail;refine (Q3h _).mono ?_;rintro e w9 ⟨u6,rfl,hu,hx⟩;have Zq:Ext w8 w9:=hx;replace Lq:=hid (Lq.out.trans Zq);replace uq:=hid (uq.out.ext Zq);replace FH:=hid (FH.out.ext Zq);replace FA:=hid (FA.out.ext Zq);replace FB:=hid (FB.out.ext Zq);replace BC:=hid (BC.out.ext Zq);replace FK:=hid (FK.out.ext Zq);clear hx Zq;have HU:=hid hu;clear hu;go_wp2_with fail;refine (Q6p _ false true false).mono ?_;rintro e w10 ⟨p7,rfl,hp,hx⟩;have Zq:Ext w9 w10:=hx;replace Lq:=hid (Lq.out.trans Zq);replace uq:=hid (uq.out.ext Zq);replace FH:=hid (FH.out.ext Zq);replace FA:=hid (FA.out.ext Zq);replace FB:=hid (FB.out.ext Zq);replace BC:=hid (BC.out.ext Zq);replace FK:=hid (FK.out.ext Zq);replace HU:=hid (HU.out.ext Zq);clear hx Zq;have HP:=hid hp;clear hp;go_wp2_with fail;refine (J4a _ _ _ HU.out HP.out).mono ?_;rintro e w11 ⟨rfl,hx⟩;have Zq:Ext w10 w11:=hx;replace Lq:=hid (Lq.out.trans Zq);clear HU HP;replace uq:=hid (uq.out.ext Zq);replace FH:=hid (FH.out.ext Zq);replace FA:=hid (FA.out.ext Zq);replace FB:=hid (FB.out.ext Zq);replace BC:=hid (BC.out.ext Zq)
 replace FK:=hid (FK.out.ext Zq);clear hx Zq;go_wp2_with fail;change Calls _ _ _ (w11.alloc (.cells #[.int .i64 3,.int .i64 4] 107)) _;obtain ⟨W,Nq,k0,Sq,eW⟩:=Q1y w11 107 #[.int .i64 3,.int .i64 4];rw [Nq];clear Nq;refine (Q3h _).mono ?_;rintro e w12 ⟨u8,rfl,hu,hx⟩;have Zq:Ext w11 w12:=Sq.out.trans hx;replace Lq:=hid (Lq.out.trans Zq);replace uq:=hid (uq.out.ext Zq);replace FH:=hid (FH.out.ext Zq);replace FA:=hid (FA.out.ext Zq);replace FB:=hid (FB.out.ext Zq);replace BC:=hid (BC.out.ext Zq);replace FK:=hid (FK.out.ext Zq);have BR:=hid (k0.ext hx);clear hx Zq Sq eW k0;have HU:=hid hu;clear hu;go_wp2_with fail;refine (Q6p _ false true false).mono ?_;rintro e w13 ⟨p9,rfl,hp,hx⟩;have Zq:Ext w12 w13:=hx;replace Lq:=hid (Lq.out.trans Zq);replace uq:=hid (uq.out.ext Zq);replace FH:=hid (FH.out.ext Zq);replace FA:=hid (FA.out.ext Zq);replace FB:=hid (FB.out.ext Zq);replace BC:=hid (BC.out.ext Zq);replace FK:=hid (FK.out.ext Zq);replace BR:=hid (BR.out.ext Zq);replace HU:=hid (HU.out.ext Zq);clear hx Zq;have HP:=hid hp;clear hp;go_wp2_with fail;refine (K0v _ _ _ HU.out HP.out).mono ?_;rintro e w14 ⟨rfl,hx⟩;have Zq:Ext w13 w14:=hx;replace Lq:=hid (Lq.out.trans Zq);clear HU HP;replace uq:=hid (uq.out.ext Zq);replace FH:=hid (FH.out.ext Zq);replace FA:=hid (FA.out.ext Zq);replace FB:=hid (FB.out.ext Zq);replace BC:=hid (BC.out.ext Zq);replace FK:=hid (FK.out.ext Zq);replace BR:=hid (BR.out.ext Zq);clear hx Zq;go_wp2_with fail;refine (Q3h _).mono ?_;rintro e w15 ⟨u10,rfl,hu,hx⟩;have Zq:Ext w14 w15:=hx;replace Lq:=hid (Lq.out.trans Zq);replace uq:=hid (uq.out.ext Zq);replace FH:=hid (FH.out.ext Zq);replace FA:=hid (FA.out.ext Zq);replace FB:=hid (FB.out.ext Zq);replace BC:=hid (BC.out.ext Zq);replace FK:=hid (FK.out.ext Zq);replace BR:=hid (BR.out.ext Zq);clear hx Zq;have HU:=hid hu;clear hu;go_wp2_with fail;refine (Q6p _ true true false).mono ?_;rintro e w16 ⟨p11,rfl,hp,hx⟩;have Zq:Ext w15 w16:=hx;replace Lq:=hid (Lq.out.trans Zq);replace uq:=hid (uq.out.ext Zq);replace FH:=hid (FH.out.ext Zq);replace FA:=hid (FA.out.ext Zq);replace FB:=hid (FB.out.ext Zq);replace BC:=hid (BC.out.ext Zq);replace FK:=hid (FK.out.ext Zq);replace BR:=hid (BR.out.ext Zq);replace HU:=hid (HU.out.ext Zq);clear hx Zq;have HP:=hid hp;clear hp;go_wp2_with fail;refine (J7f _ _ _ HU.out HP.out).mono ?_;rintro e w17 ⟨rfl,hx⟩;have Zq:Ext w16 w17:=hx;replace Lq:=hid (Lq.out.trans Zq);clear HU HP;replace uq:=hid (uq.out.ext Zq);replace FH:=hid (FH.out.ext Zq);replace FA:=hid (FA.out.ext Zq);replace FB:=hid (FB.out.ext Zq);replace BC:=hid (BC.out.ext Zq);replace FK:=hid (FK.out.ext Zq);replace BR:=hid (BR.out.ext Zq);clear hx Zq;go_wp2_with fail;refine (Q3h _).mono ?_;rintro e w18 ⟨u12,rfl,hu,hx⟩;have Zq:Ext w17 w18:=hx;replace Lq:=hid (Lq.out.trans Zq);replace uq:=hid (uq.out.ext Zq);replace FH:=hid (FH.out.ext Zq);replace FA:=hid (FA.out.ext Zq);replace FB:=hid (FB.out.ext Zq);replace BC:=hid (BC.out.ext Zq);replace FK:=hid (FK.out.ext Zq);replace BR:=hid (BR.out.ext Zq);clear hx Zq;have HU:=hid hu;clear hu;go_wp2_with fail;refine (J9o _ _ HU.out).mono ?_;rintro e w19 ⟨rfl,hx⟩;have Zq:Ext w18 w19:=hx;replace Lq:=hid (Lq.out.trans Zq);clear HU;replace uq:=hid (uq.out.ext Zq);replace FH:=hid (FH.out.ext Zq);replace FA:=hid (FA.out.ext Zq);replace FB:=hid (FB.out.ext Zq);replace BC:=hid (BC.out.ext Zq);replace FK:=hid (FK.out.ext Zq);replace BR:=hid (BR.out.ext Zq);clear hx Zq;go_wp2_with fail;refine (Q3h _).mono ?_;rintro e w20 ⟨u13,rfl,hu,hx⟩;have Zq:Ext w19 w20:=hx;replace Lq:=hid (Lq.out.trans Zq);replace uq:=hid (uq.out.ext Zq);replace FH:=hid (FH.out.ext Zq)
 replace FA:=hid (FA.out.ext Zq);replace FB:=hid (FB.out.ext Zq);replace BC:=hid (BC.out.ext Zq);replace FK:=hid (FK.out.ext Zq);replace BR:=hid (BR.out.ext Zq);clear hx Zq;have HU:=hid hu;clear hu;go_wp2_with fail;refine (J7y _ _ HU.out).mono ?_;rintro e w21 ⟨xp,rfl,mQ,hx⟩;have Zq:Ext w20 w21:=hx;replace Lq:=hid (Lq.out.trans Zq);clear HU;replace uq:=hid (uq.out.ext Zq);replace FH:=hid (FH.out.ext Zq);replace FA:=hid (FA.out.ext Zq);replace FB:=hid (FB.out.ext Zq);replace BC:=hid (BC.out.ext Zq);replace FK:=hid (FK.out.ext Zq);replace BR:=hid (BR.out.ext Zq);clear hx Zq;obtain ⟨Ap,cp,rfl,-,-,-⟩:=mQ.opened;have AJ:(X3t true true false).length=3:=rfl;change Q1d _ (.slice Ap 3 cp) _ at mQ;clear AJ;have FP:=hid mQ;clear mQ;go_wp2_with fail;change Calls _ _ _ (w21.alloc (.cells #[.slice Ap 3 cp] 38)) _;obtain ⟨W,Nq,k0,Sq,eW⟩:=Q1y w21 38 #[.slice Ap 3 cp];rw [Nq];clear Nq;refine (Q3h _).mono ?_;rintro e w22 ⟨u14,rfl,hu,hx⟩;have Zq:Ext w21 w22:=Sq.out.trans hx;replace Lq:=hid (Lq.out.trans Zq);replace uq:=hid (uq.out.ext Zq);replace FH:=hid (FH.out.ext Zq);replace FA:=hid (FA.out.ext Zq);replace FB:=hid (FB.out.ext Zq);replace BC:=hid (BC.out.ext Zq);replace FK:=hid (FK.out.ext Zq);replace BR:=hid (BR.out.ext Zq);replace FP:=hid (FP.out.ext Zq);have BP:=hid (k0.ext hx);clear hx Zq Sq eW k0;have HU:=hid hu;clear hu;go_wp2_with fail;refine (J8l _ _ HU.out).mono ?_;rintro e w23 ⟨xq,rfl,pc,hx⟩;have Zq:Ext w22 w23:=hx;replace Lq:=hid (Lq.out.trans Zq);clear HU;replace uq:=hid (uq.out.ext Zq);replace FH:=hid (FH.out.ext Zq);replace FA:=hid (FA.out.ext Zq);replace FB:=hid (FB.out.ext Zq);replace BC:=hid (BC.out.ext Zq);replace FK:=hid (FK.out.ext Zq);replace BR:=hid (BR.out.ext Zq);replace FP:=hid (FP.out.ext Zq);replace BP:=hid (BP.out.ext Zq);clear hx Zq;obtain ⟨Aq,cq,rfl,-,-,-⟩:=pc.opened;obtain ⟨nq,Bi⟩:∃ z,(Z0c Q0s 3).length=z:=⟨_,rfl⟩;rw [Bi];clear pc Bi;obtain ⟨Ah,ch,rfl,-,-,hh⟩:=FH.out.opened;have Ai:([[0],[0,0],[0,1]]:List (List Int)).length=3:=rfl;rw [Ai];clear Ai;obtain ⟨bh,oh,y0,rfl,-,Az,mz⟩:=hh 0 (by decide)
 obtain ⟨_,_,y1,he,-,Rx,Wk⟩:=hh 1 (by decide)
 cases he;obtain ⟨_,_,y2,he,-,Xx,Xz⟩:=hh 2 (by decide)
 cases he;replace mz:Q0e _ y0 [0]:=mz;replace Wk:Q0e _ y1 [0,0]:=Wk;replace Xz:Q0e _ y2 [0,1]:=Xz;clear FH hh;have FI0:=hid mz;clear mz;have FI1:=hid Wk;clear Wk;have FI2:=hid Xz;clear Xz;have x0:=Ext.box w23 (.cells #[.slice Aq nq cq] 38);simp only [Nat.add_zero] at Az;have sj:=hid (show At _ _ _ from Rx)
 have rj:=hid (show At _ _ _ from Xx)
 replace Az:=x0.cell Az;clear Rx Xx;go_wp2_with fail;change Calls _ _ _ ((w23.alloc (.cells #[.slice Aq nq cq] 38)).alloc (.cells #[.int .i64 0] 3)) _;obtain ⟨W,Nq,k0,k1,Sq,eW⟩:=Q3p w23 38 #[.slice Aq nq cq] 3 #[.int .i64 0];rw [Nq];clear Nq;refine (Y0u _ _ _ _ (FI0.out.ext Sq.out) (Q2c (l:=[0]) k1 rfl rfl (by decide))).mono ?_
 rintro e w24 ⟨rfl,hx⟩;have Zq:Ext w23 w24:=Sq.out.trans hx;replace Lq:=hid (Lq.out.trans Zq);clear FI0;replace uq:=hid (uq.out.ext Zq);replace FA:=hid (FA.out.ext Zq);replace FB:=hid (FB.out.ext Zq);replace BC:=hid (BC.out.ext Zq);replace FK:=hid (FK.out.ext Zq);replace BR:=hid (BR.out.ext Zq);replace FP:=hid (FP.out.ext Zq);replace BP:=hid (BP.out.ext Zq);replace FI1:=hid (FI1.out.ext Zq);replace FI2:=hid (FI2.out.ext Zq);replace sj:=hid (sj.out.ext Zq);replace rj:=hid (rj.out.ext Zq);clear hx Zq Sq eW k0 k1;clear Az x0;have Rx:w24.cell? ⟨bh,oh + 1,none⟩=some y1:=sj.out;go_wp2_with fail;change Calls _ _ _ (w24.alloc (.cells #[.int .i64 0,.int .i64 0] 3)) _;obtain ⟨W,Nq,k0,Sq,eW⟩:=Q1y w24 3 #[.int .i64 0,.int .i64 0];rw [Nq];clear Nq;refine (Y0u _ _ _ _ (FI1.out.ext Sq.out) (Q2c (l:=[0,0]) k0 rfl rfl (by decide))).mono ?_
 rintro e w25 ⟨rfl,hx⟩;have Zq:Ext w24 w25:=Sq.out.trans hx;replace Lq:=hid (Lq.out.trans Zq);clear FI1;replace uq:=hid (uq.out.ext Zq);replace FA:=hid (FA.out.ext Zq);replace FB:=hid (FB.out.ext Zq);replace BC:=hid (BC.out.ext Zq);replace FK:=hid (FK.out.ext Zq);replace BR:=hid (BR.out.ext Zq);replace FP:=hid (FP.out.ext Zq);replace BP:=hid (BP.out.ext Zq);replace FI2:=hid (FI2.out.ext Zq);replace sj:=hid (sj.out.ext Zq);replace rj:=hid (rj.out.ext Zq);clear hx Zq Sq eW k0;clear Rx;have Xx:w25.cell? ⟨bh,oh + 2,none⟩=some y2:=rj.out;go_wp2_with fail;change Calls _ _ _ (w25.alloc (.cells #[.int .i64 0,.int .i64 1] 3)) _;obtain ⟨W,Nq,k0,Sq,eW⟩:=Q1y w25 3 #[.int .i64 0,.int .i64 1];rw [Nq];clear Nq;refine (Y0u _ _ _ _ (FI2.out.ext Sq.out) (Q2c (l:=[0,1]) k0 rfl rfl (by decide))).mono ?_
 rintro e w26 ⟨rfl,hx⟩;have Zq:Ext w25 w26:=Sq.out.trans hx;replace Lq:=hid (Lq.out.trans Zq);clear FI2;replace uq:=hid (uq.out.ext Zq);replace FA:=hid (FA.out.ext Zq);replace FB:=hid (FB.out.ext Zq);replace BC:=hid (BC.out.ext Zq);replace FK:=hid (FK.out.ext Zq);replace BR:=hid (BR.out.ext Zq);replace FP:=hid (FP.out.ext Zq);replace BP:=hid (BP.out.ext Zq);replace sj:=hid (sj.out.ext Zq);replace rj:=hid (rj.out.ext Zq);clear hx Zq Sq eW k0;clear Xx;have d0BC:=BC.out.cell 0;simp only [Go.Tw.gA,Go.Tw.gB] at d0BC;go_wp2_with fail;change Calls _ _ _ (w26.alloc (.cells #[.bool false,.bool true] 4)) _;obtain ⟨W,Nq,k0,Sq,eW⟩:=Q1y w26 4 #[.bool false,.bool true];rw [Nq];clear Nq;refine (J1g _ _ _ _ (FA.out.ext Sq.out) (Y7s (l:=[false,true]) k0 rfl rfl (by decide))).mono ?_
 rintro e w27 ⟨rfl,hx⟩;have Zq:Ext w26 w27:=Sq.out.trans hx;replace Lq:=hid (Lq.out.trans Zq);clear FA;replace uq:=hid (uq.out.ext Zq);replace FB:=hid (FB.out.ext Zq);replace BC:=hid (BC.out.ext Zq);replace FK:=hid (FK.out.ext Zq);replace BR:=hid (BR.out.ext Zq);replace FP:=hid (FP.out.ext Zq);replace BP:=hid (BP.out.ext Zq);replace sj:=hid (sj.out.ext Zq);replace rj:=hid (rj.out.ext Zq);clear hx Zq Sq eW k0;clear d0BC;have d1BC:=BC.out.cell 1;simp only [Go.Tw.gA,Go.Tw.gB,Go.Tw.gC] at d1BC;go_wp2_with fail;change Calls _ _ _ (w27.alloc (.cells #[.int .i64 20,.int .i64 10] 3)) _;obtain ⟨W,Nq,k0,Sq,eW⟩:=Q1y w27 3 #[.int .i64 20,.int .i64 10];rw [Nq];clear Nq;refine (Y0u _ _ _ _ (FB.out.ext Sq.out) (Q2c (l:=[20,10]) k0 rfl rfl (by decide))).mono ?_
 rintro e w28 ⟨rfl,hx⟩;have Zq:Ext w27 w28:=Sq.out.trans hx;replace Lq:=hid (Lq.out.trans Zq);clear FB BC;replace uq:=hid (uq.out.ext Zq);replace FK:=hid (FK.out.ext Zq);replace BR:=hid (BR.out.ext Zq);replace FP:=hid (FP.out.ext Zq);replace BP:=hid (BP.out.ext Zq);replace sj:=hid (sj.out.ext Zq);replace rj:=hid (rj.out.ext Zq);clear hx Zq Sq eW k0;clear d1BC;go_wp2_with fail;change Calls _ _ _ (w28.alloc (.cells #[.int .i64 0,.int .i64 2] 3)) _;obtain ⟨W,Nq,k0,Sq,eW⟩:=Q1y w28 3 #[.int .i64 0,.int .i64 2];rw [Nq];clear Nq;refine (Y0u _ _ _ _ (FK.out.ext Sq.out) (Q2c (l:=[0,2]) k0 rfl rfl (by decide))).mono ?_
 rintro e w29 ⟨rfl,hx⟩;have Zq:Ext w28 w29:=Sq.out.trans hx;replace Lq:=hid (Lq.out.trans Zq);clear FK;replace uq:=hid (uq.out.ext Zq);replace BR:=hid (BR.out.ext Zq);replace FP:=hid (FP.out.ext Zq);replace BP:=hid (BP.out.ext Zq);replace sj:=hid (sj.out.ext Zq);replace rj:=hid (rj.out.ext Zq);clear hx Zq Sq eW k0;have d0BR:=BR.out.cell 0;have d1BR:=BR.out.cell 1;simp only [Go.Tw.gA,Go.Tw.gB,Go.Tw.gC] at d0BR d1BR;have d0BP:=BP.out.cell 0;simp only [Go.Tw.gA,Go.Tw.gB] at d0BP;go_wp2_with fail;refine (Y5b _ _ rlB ⟨_,rfl,FP.out⟩ (by decide)).mono ?_
 rintro e w30 ⟨v1,rfl,ht,hx⟩;have Zq:Ext w29 w30:=hx;replace Lq:=hid (Lq.out.trans Zq);clear BR BP FP;replace uq:=hid (uq.out.ext Zq);replace sj:=hid (sj.out.ext Zq);replace rj:=hid (rj.out.ext Zq);clear hx Zq;clear d0BR d1BR d0BP;have FT1:=hid ht;clear ht;go_wp2_with fail;refine (Q6p _ true true false).mono ?_;rintro e w31 ⟨p15,rfl,hp,hx⟩;have Zq:Ext w30 w31:=hx;replace Lq:=hid (Lq.out.trans Zq);replace uq:=hid (uq.out.ext Zq);replace sj:=hid (sj.out.ext Zq);replace rj:=hid (rj.out.ext Zq);replace FT1:=hid (FT1.out.ext Zq);clear hx Zq;have HP:=hid hp;clear hp;go_wp2_with fail;refine (Y5b _ _ rlB HP.out (by decide)).mono ?_
 rintro e w32 ⟨v2,rfl,ht,hx⟩;have Zq:Ext w31 w32:=hx;replace Lq:=hid (Lq.out.trans Zq);clear HP;replace uq:=hid (uq.out.ext Zq);replace sj:=hid (sj.out.ext Zq);replace rj:=hid (rj.out.ext Zq);replace FT1:=hid (FT1.out.ext Zq);clear hx Zq;have FT2:=hid ht;clear ht;go_wp2_with fail;refine (J7q _ _ _ _ FT1.out FT2.out).mono ?_;rintro e w33 ⟨rfl,hx⟩;have Zq:Ext w32 w33:=hx;replace Lq:=hid (Lq.out.trans Zq);clear FT1 FT2;replace uq:=hid (uq.out.ext Zq);replace sj:=hid (sj.out.ext Zq);replace rj:=hid (rj.out.ext Zq);clear hx Zq;go_wp2_with fail;refine (Q3h _).mono ?_;rintro e w34 ⟨u16,rfl,hu,hx⟩;have Zq:Ext w33 w34:=hx;replace Lq:=hid (Lq.out.trans Zq);replace uq:=hid (uq.out.ext Zq);replace sj:=hid (sj.out.ext Zq);replace rj:=hid (rj.out.ext Zq);clear hx Zq;have HU:=hid hu;clear hu;go_wp2_with fail;refine (J8f _ _ HU.out).mono ?_;rintro e w35 ⟨xl,rfl,hl,hx⟩;have Zq:Ext w34 w35:=hx;replace Lq:=hid (Lq.out.trans Zq);clear HU;replace uq:=hid (uq.out.ext Zq);replace sj:=hid (sj.out.ext Zq);replace rj:=hid (rj.out.ext Zq);clear hx Zq;have FL:=hid hl;clear hl;go_wp2_with fail;refine (Q3h _).mono ?_;rintro e w36 ⟨u17,rfl,hu,hx⟩;have Zq:Ext w35 w36:=hx;replace Lq:=hid (Lq.out.trans Zq);replace uq:=hid (uq.out.ext Zq);replace sj:=hid (sj.out.ext Zq);replace rj:=hid (rj.out.ext Zq);replace FL:=hid (FL.out.ext Zq);clear hx Zq;have HU:=hid hu;clear hu;go_wp2_with fail;refine (Q6p _ true true false).mono ?_;rintro e w37 ⟨p18,rfl,hp,hx⟩;have Zq:Ext w36 w37:=hx;replace Lq:=hid (Lq.out.trans Zq);replace uq:=hid (uq.out.ext Zq);replace sj:=hid (sj.out.ext Zq);replace rj:=hid (rj.out.ext Zq);replace FL:=hid (FL.out.ext Zq);replace HU:=hid (HU.out.ext Zq);clear hx Zq;have HP:=hid hp;clear hp;go_wp2_with fail;refine (J5q _ _ _ HU.out HP.out).mono ?_;rintro e w38 ⟨rfl,hx⟩;have Zq:Ext w37 w38:=hx;replace Lq:=hid (Lq.out.trans Zq);clear HU HP;replace uq:=hid (uq.out.ext Zq);replace sj:=hid (sj.out.ext Zq);replace rj:=hid (rj.out.ext Zq);replace FL:=hid (FL.out.ext Zq);clear hx Zq;go_wp2_with fail;refine (Q3h _).mono ?_;rintro e w39 ⟨u19,rfl,hu,hx⟩;have Zq:Ext w38 w39:=hx;replace Lq:=hid (Lq.out.trans Zq);replace uq:=hid (uq.out.ext Zq);replace sj:=hid (sj.out.ext Zq);replace rj:=hid (rj.out.ext Zq);replace FL:=hid (FL.out.ext Zq);clear hx Zq;have HU:=hid hu;clear hu;go_wp2_with fail;refine (J5a _ _ HU.out).mono ?_;rintro e w40 ⟨xg,rfl,hg,hx⟩;have Zq:Ext w39 w40:=hx;replace Lq:=hid (Lq.out.trans Zq);clear HU;replace uq:=hid (uq.out.ext Zq);replace sj:=hid (sj.out.ext Zq);replace rj:=hid (rj.out.ext Zq);replace FL:=hid (FL.out.ext Zq);clear hx Zq;have FG:=hid hg;clear hg;go_wp2_with fail;change Calls _ _ _ ((((((w40.alloc (.cells #[.int .i64 0,.int .i64 0] 3)).alloc (.cells #[.int .i64 0,.int .i64 0] 3)).alloc (.cells #[.int .i64 40,.int .i64 40] 3)).alloc (.cells #[.int .i64 20,.int .i64 20] 3)).alloc (.cells #[.string ⟨#[122]⟩,.int .i64 1,.slice (some ⟨w40.heap.size + 1,0,none⟩) 2 2,.slice (some ⟨w40.heap.size + 1 + 1,0,none⟩) 2 2,.slice (some ⟨w40.heap.size + 1 + 1 + 1,0,none⟩) 2 2] 69)).alloc (.cells #[.int .i64 30,.slice (some ⟨w40.heap.size,0,none⟩) 2 2,.slice (some ⟨w40.heap.size + 1 + 1 + 1 + 1,0,none⟩) 1 1] 34)) _;have k0:=Blk.made w40 3 #[.int .i64 0,.int .i64 0];have x0:=Ext.box w40 (.cells #[.int .i64 0,.int .i64 0] 3);have es0:(w40.alloc (.cells #[.int .i64 0,.int .i64 0] 3)).heap.size=w40.heap.size + 1:=by simp
 obtain ⟨X0,i5⟩:∃ X,w40.alloc (.cells #[.int .i64 0,.int .i64 0] 3)=X:=⟨_,rfl⟩;rw [i5] at k0 x0 es0 ⊢;clear i5;have k1:=Blk.made X0 3 #[.int .i64 0,.int .i64 0];have x1:=Ext.box X0 (.cells #[.int .i64 0,.int .i64 0] 3);have es1:(X0.alloc (.cells #[.int .i64 0,.int .i64 0] 3)).heap.size=X0.heap.size + 1:=by simp
 obtain ⟨X1,d5⟩:∃ X,X0.alloc (.cells #[.int .i64 0,.int .i64 0] 3)=X:=⟨_,rfl⟩;rw [d5] at k1 x1 es1 ⊢;clear d5;have k2:=Blk.made X1 3 #[.int .i64 40,.int .i64 40];have x2:=Ext.box X1 (.cells #[.int .i64 40,.int .i64 40] 3);have es2:(X1.alloc (.cells #[.int .i64 40,.int .i64 40] 3)).heap.size=X1.heap.size + 1:=by simp
 obtain ⟨X2,b5⟩:∃ X,X1.alloc (.cells #[.int .i64 40,.int .i64 40] 3)=X:=⟨_,rfl⟩;rw [b5] at k2 x2 es2 ⊢;clear b5;have k3:=Blk.made X2 3 #[.int .i64 20,.int .i64 20];have x3:=Ext.box X2 (.cells #[.int .i64 20,.int .i64 20] 3);have es3:(X2.alloc (.cells #[.int .i64 20,.int .i64 20] 3)).heap.size=X2.heap.size + 1:=by simp
 obtain ⟨X3,Z6⟩:∃ X,X2.alloc (.cells #[.int .i64 20,.int .i64 20] 3)=X:=⟨_,rfl⟩;rw [Z6] at k3 x3 es3 ⊢;clear Z6;have k4:=Blk.made X3 69 #[.string ⟨#[122]⟩,.int .i64 1,.slice (some ⟨w40.heap.size + 1,0,none⟩) 2 2,.slice (some ⟨w40.heap.size + 1 + 1,0,none⟩) 2 2,.slice (some ⟨w40.heap.size + 1 + 1 + 1,0,none⟩) 2 2];have x4:=Ext.box X3 (.cells #[.string ⟨#[122]⟩,.int .i64 1,.slice (some ⟨w40.heap.size + 1,0,none⟩) 2 2,.slice (some ⟨w40.heap.size + 1 + 1,0,none⟩) 2 2,.slice (some ⟨w40.heap.size + 1 + 1 + 1,0,none⟩) 2 2] 69);have es4:(X3.alloc (.cells #[.string ⟨#[122]⟩,.int .i64 1,.slice (some ⟨w40.heap.size + 1,0,none⟩) 2 2,.slice (some ⟨w40.heap.size + 1 + 1,0,none⟩) 2 2,.slice (some ⟨w40.heap.size + 1 + 1 + 1,0,none⟩) 2 2] 69)).heap.size=X3.heap.size + 1:=by simp
 obtain ⟨X4,A9⟩:∃ X,X3.alloc (.cells #[.string ⟨#[122]⟩,.int .i64 1,.slice (some ⟨w40.heap.size + 1,0,none⟩) 2 2,.slice (some ⟨w40.heap.size + 1 + 1,0,none⟩) 2 2,.slice (some ⟨w40.heap.size + 1 + 1 + 1,0,none⟩) 2 2] 69)=X:=⟨_,rfl⟩;rw [A9] at k4 x4 es4 ⊢;clear A9;have k5:=Blk.made X4 34 #[.int .i64 30,.slice (some ⟨w40.heap.size,0,none⟩) 2 2,.slice (some ⟨w40.heap.size + 1 + 1 + 1 + 1,0,none⟩) 1 1];have x5:=Ext.box X4 (.cells #[.int .i64 30,.slice (some ⟨w40.heap.size,0,none⟩) 2 2,.slice (some ⟨w40.heap.size + 1 + 1 + 1 + 1,0,none⟩) 1 1] 34);have es5:(X4.alloc (.cells #[.int .i64 30,.slice (some ⟨w40.heap.size,0,none⟩) 2 2,.slice (some ⟨w40.heap.size + 1 + 1 + 1 + 1,0,none⟩) 1 1] 34)).heap.size=X4.heap.size + 1:=by simp
 obtain ⟨X5,JK⟩:∃ X,X4.alloc (.cells #[.int .i64 30,.slice (some ⟨w40.heap.size,0,none⟩) 2 2,.slice (some ⟨w40.heap.size + 1 + 1 + 1 + 1,0,none⟩) 1 1] 34)=X:=⟨_,rfl⟩;rw [JK] at k5 x5 es5 ⊢;clear JK;replace k0:=((((k0.ext x1).ext x2).ext x3).ext x4).ext x5;replace k1:=(((k1.ext x2).ext x3).ext x4).ext x5;replace k2:=((k2.ext x3).ext x4).ext x5;replace k3:=(k3.ext x4).ext x5;replace k4:=k4.ext x5;have e0:X0.heap.size=w40.heap.size + 1:=by omega
 have e1:X1.heap.size=w40.heap.size + 1 + 1:=by omega
 have e2:X2.heap.size=w40.heap.size + 1 + 1 + 1:=by omega
 have e3:X3.heap.size=w40.heap.size + 1 + 1 + 1 + 1:=by omega
 have e4:X4.heap.size=w40.heap.size + 1 + 1 + 1 + 1 + 1:=by omega
 have e5:X5.heap.size=w40.heap.size + 1 + 1 + 1 + 1 + 1 + 1:=by omega
 rw [e0] at k1;rw [e1] at k2;rw [e2] at k3;rw [e3] at k4;rw [e4] at k5;have Sq:Hid (Ext w40 X5):=hid (Ext.trans (Ext.trans (Ext.trans (Ext.trans (Ext.trans (x0) x1) x2) x3) x4) x5);have eW:X5.heap.size=w40.heap.size + 1 + 1 + 1 + 1 + 1 + 1:=e5;clear x0 es0 e0 x1 es1 e1 x2 es2 e2 x3 es3 e3 x4 es4 e4 x5 es5 e5;obtain ⟨W,Nq⟩:∃ W,X5=W:=⟨_,rfl⟩;rw [Nq] at Sq eW ⊢ k0 k1 k2 k3 k4 k5;clear Nq;refine (J4w _ _ ⟨_,_,rfl,⟨(Q2c (l:=[0,0]) k0 rfl rfl (by decide)),J8r k4 (Q2c (l:=[0,0]) k1 rfl rfl (by decide)) (Q2c (l:=[40,40]) k2 rfl rfl (by decide)) (Q2c (l:=[20,20]) k3 rfl rfl (by decide))⟩⟩).mono ?_
 rintro e w41 ⟨rfl,hx⟩;have Zq:Ext w40 w41:=Sq.out.trans hx;replace Lq:=hid (Lq.out.trans Zq);replace uq:=hid (uq.out.ext Zq);replace sj:=hid (sj.out.ext Zq);replace rj:=hid (rj.out.ext Zq);replace FL:=hid (FL.out.ext Zq);replace FG:=hid (FG.out.ext Zq);clear hx Zq Sq eW k0 k1 k2 k3 k4 k5;go_wp2_with fail;refine (Q6p _ false true false).mono ?_;rintro e w42 ⟨p20,rfl,hp,hx⟩;have Zq:Ext w41 w42:=hx;replace Lq:=hid (Lq.out.trans Zq);replace uq:=hid (uq.out.ext Zq);replace sj:=hid (sj.out.ext Zq);replace rj:=hid (rj.out.ext Zq);replace FL:=hid (FL.out.ext Zq);replace FG:=hid (FG.out.ext Zq);clear hx Zq;have HP:=hid hp;clear hp;go_wp2_with fail;refine (J7z _ _ HP.out uq.out).mono ?_;rintro e w43 ⟨rfl,hx⟩;have Zq:Ext w42 w43:=hx;replace Lq:=hid (Lq.out.trans Zq);clear HP;replace uq:=hid (uq.out.ext Zq);replace sj:=hid (sj.out.ext Zq);replace rj:=hid (rj.out.ext Zq);replace FL:=hid (FL.out.ext Zq);replace FG:=hid (FG.out.ext Zq);clear hx Zq;go_wp2_with fail;change Calls _ _ _ (w43.alloc (.cells #[.bool false,.bool true] 4)) _;obtain ⟨W,Nq,k0,Sq,eW⟩:=Q1y w43 4 #[.bool false,.bool true];rw [Nq];clear Nq;refine (J1g _ _ _ _ (FL.out.ext Sq.out) (Y7s (l:=[false,true]) k0 rfl rfl (by decide))).mono ?_
 rintro e w44 ⟨rfl,hx⟩;have Zq:Ext w43 w44:=Sq.out.trans hx;replace Lq:=hid (Lq.out.trans Zq);clear FL;replace uq:=hid (uq.out.ext Zq);replace sj:=hid (sj.out.ext Zq);replace rj:=hid (rj.out.ext Zq);replace FG:=hid (FG.out.ext Zq);clear hx Zq Sq eW k0;go_wp2_with fail;refine (Y0n _ _ _ FG.out (by decide)).mono ?_
 rintro e w45 ⟨v3,rfl,hg,hx⟩;have Zq:Ext w44 w45:=hx;replace Lq:=hid (Lq.out.trans Zq);clear FG;replace uq:=hid (uq.out.ext Zq);replace sj:=hid (sj.out.ext Zq);replace rj:=hid (rj.out.ext Zq);clear hx Zq;have FG3:=hid hg;clear hg;go_wp2_with fail;change Calls _ _ _ (((w45.alloc (.cells #[.int .i64 0] 3)).alloc (.cells #[.int .i64 1,.int .i64 2] 3)).alloc (.cells #[.slice (some ⟨w45.heap.size,0,none⟩) 1 1,.int .i64 2,.slice (some ⟨w45.heap.size + 1,0,none⟩) 2 2,.int .i64 2] 153)) _;obtain ⟨W,Nq,k0,k1,k2,Sq,eW⟩:=Q9s w45 3 #[.int .i64 0] 3 #[.int .i64 1,.int .i64 2] 153 #[.slice (some ⟨w45.heap.size,0,none⟩) 1 1,.int .i64 2,.slice (some ⟨w45.heap.size + 1,0,none⟩) 2 2,.int .i64 2];rw [Nq];clear Nq;refine (J7v _ _ _ _ (FG3.out.ext Sq.out) (J5v k2 (Q2c (l:=[0]) k0 rfl rfl (by decide)) (Q2c (l:=[1,2]) k1 rfl rfl (by decide)))).mono ?_
 rintro e w46 ⟨rfl,hx⟩;have Zq:Ext w45 w46:=Sq.out.trans hx;replace Lq:=hid (Lq.out.trans Zq);clear FG3;replace uq:=hid (uq.out.ext Zq);replace sj:=hid (sj.out.ext Zq);replace rj:=hid (rj.out.ext Zq);clear hx Zq Sq eW k0 k1 k2;go_wp2;go_ret;exact ⟨congrArg Ending.returned (congrArg Value.bool J6z),Lq.out⟩
end Go.Proofs
