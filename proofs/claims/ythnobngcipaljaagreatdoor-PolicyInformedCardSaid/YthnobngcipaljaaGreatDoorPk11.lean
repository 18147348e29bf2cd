/- Part of the proof of a law. -/
import Derived.Test.YthnobngcipaljaaGreatDoorPk09
import Derived.Lib.MinMax
set_option maxRecDepth 1000000
set_option maxHeartbeats 64000000
set_option linter.unusedVariables false
set_option linter.unusedSimpArgs false
set_option linter.constructorNameAsVariable false
open Go.Lib (hid)
namespace Go.Proofs
open Go.RowKit Go.Tw Go.Flow Tryz
attribute [local go_sem] Oper.semAt_some
theorem fzg11 {u:Type} {a b:u} (h:a=b:=by rw [hbb]; dsimp only; (try simp (discharger:=decide) only [Flow.eval_put_ne]); rw [Flow.Q0a (by (try simp only [Flow.size_put]); exact of_decide_eq_true rfl)]; try assumption):a=b:=h
theorem X1v (w:World) (v:Value) (s:Q0b) (hv:Q0i w v s) (he:s.err=0) :
    Calls prog 44 #[v] w fun e w'=>∃ x,e=.returned x /\ LL w' w.heap.size x s.hist /\ Ext w w':=by
 obtain ⟨i0,hi,dq,fq,Zj⟩:=info_parts info22;obtain ⟨n0,ni,nz0,nz1,nz2⟩:=info_parts info3;have hS:=Q0r.of he;have Z8:Hid (∀ i,i < s.members.length -> (Q0c s.members i).length=s.ships.length):=fun i h=>(hS.shaped i h).1;have nY:=hS.tides.2;have b8:=hS.some.2;obtain ⟨a,b,rfl,h2⟩:=hv;obtain ⟨A0,Tq,rfl,-,-,-⟩:=h2.ships.opened;obtain ⟨B,Vq,rfl,-,-,hc⟩:=h2.members.opened;have HC:=hid hc;obtain ⟨n,hn⟩:∃ n,s.members.length=n:=⟨_,rfl⟩;obtain ⟨T,hT⟩:∃ n,s.ships.length=n:=⟨_,rfl⟩;have HN:=hid hn;have HT:=hid hT;rw [hn] at HC b8 Z8;rw [hT] at nY Z8;rw [hn,hT];clear h2 hc hS he hn hT;go_enter func44,ntmps44;go_wp2_with fail;change Code.wp _ _ _ _ (w.alloc (.cells #[.int .i64 s.limit,.slice A0 T Tq,.slice B n Vq] 25));obtain ⟨W,Mq,k0,Rq,eW⟩:=Q2q w 25 #[.int .i64 s.limit,.slice A0 T Tq,.slice B n Vq];rw [Mq];clear Mq;obtain ⟨gs,Rj⟩:∃ x,w.heap.size=x:=⟨_,rfl⟩;rw [Rj] at k0 eW ⊢;have K0:=hid k0;have HW:=Rq;have Pp:gs < W.heap.size:=k0.lt;clear k0 Rj
 go_loopw [3,4] (fun o t wr=>∃ (k:Nat),k <= T /\ t=.int .i64 k /\ LL wr W.heap.size o (s.Q5t k) /\ Ext W wr) (fun _ t _=>T - (intOf t).toNat)
 case atStart=>exact ⟨0,Nat.zero_le _,rfl,LL.nil _ _,Ext.refl _⟩
 case round =>
  obtain ⟨k,hk,rfl,XW,qv⟩:=hrel;obtain ⟨w1,rfl⟩:∃ x,x=wr:=⟨_,rfl⟩;have c0:=(K0.out.ext qv).cell 0;have c1:=(K0.out.ext qv).cell 1;have c2:=(K0.out.ext qv).cell 2;simp only [Go.Tw.gA,Go.Tw.gB,Go.Tw.gC] at c0 c1 c2;have kJ:=hid qv;have HO:=hid XW;clear qv XW
  by_cases Uq:k < T
  . have zj:(k:Int) < T:=by omega
    go_light
    go_wp2_with fail
    go_loopw [5,6] (fun r i wr=>∃ (m:Nat),m <= n /\ i=.int .i64 m /\ LL wr W.heap.size r (s.Q5v k m) /\ Ext w1 wr) (fun _ i _=>n - (intOf i).toNat)
    case atStart=>exact ⟨0,Nat.zero_le _,rfl,LL.nil _ _,Ext.refl _⟩
    case round =>
     obtain ⟨m,hm,rfl,C7,Nq⟩:=hrel;obtain ⟨w2,rfl⟩:∃ x,x=wr:=⟨_,rfl⟩;have Y8:=kJ.out.trans Nq;have d0:=(K0.out.ext Y8).cell 0;have d1:=(K0.out.ext Y8).cell 1;have d2:=(K0.out.ext Y8).cell 2;simp only [Go.Tw.gA,Go.Tw.gB,Go.Tw.gC] at d0 d1 d2;have Wz:=hid Nq;have og:=hid Y8;have HR:=hid C7;clear Nq C7
     by_cases b5:m < n
     . have Ul:(m:Int) < n:=by omega
       obtain ⟨bm,off,x0,y0,z0,Np,Tk,-,-,e2,-,-,T9,-,-,-⟩:=HC.out m b5;subst Np;obtain ⟨C,P2,rfl,-,O9,Ld⟩:=T9.opened;have BJ:=Z8.out m b5;obtain ⟨lc,vj⟩:∃ x,Q0c s.members m=x:=⟨_,rfl⟩;rw [vj] at BJ O9 Ld e2 T9;rw [BJ] at e2 O9;obtain ⟨bc,oc,Mp,_⟩:=Ld 0 (by omega)
       subst Mp;have i9:k + 1 <= P2:=by omega
       have d9:¬ ((0:Int) <= (k:Int) + 1 -> (P2:Int) < (k:Int) + 1):=by omega
       have b9:¬ P2=0:=by omega
       have ZQ:¬ (k:Int) + 1 < 0:=by omega
       have YQ:((k:Int) + 1).toNat=k + 1:=by omega
       have Lp:(k:Int) + 1 <= (P2:Int):=by omega
       have mW:IntKind.i64.wrap ((k:Int) + 1)=(k:Int) + 1:=Q2j _ (by omega) (by omega)
       have hxb:=Ext.box w2 (.cells #[] 3);have Yq:Q0q (w2.alloc (.cells #[] 3)) w2.heap.size 3 (Value.int .i64) (.slice (some ⟨w2.heap.size,0,none⟩) 0 0) []:=World.ownsRow_made w2 #[] 0 (Nat.le_refl _) (by unfold maxLen; omega) rfl
       have e2':=hxb.cell (og.out.cell (HW.out.cell e2));have d2':=hxb.cell d2;have lt1:(lc.take (k + 1)).length=k + 1:=by rw [List.length_take]; omega
       have WW:=(Q9n (by rw [BJ] at T9; exact T9) (show k + 1 <= lc.length by omega)).ext ((HW.out.trans og.out).trans hxb)
       have j1:Hid (∀ j u,((lc.take (k + 1)).map (Value.int .i64))[j]?=some u -> (w2.alloc (.cells #[] 3)).cell? ((⟨bc,oc,none⟩:Addr).add j)=some u):=Z5c WW lt1;have N9:Hid (∀ u ∈ (lc.take (k + 1)).map (Value.int .i64),u.oneCell'=true):=by
        exact (by intro u hu; obtain ⟨y,_,rfl⟩:=List.mem_map.1 hu; rfl:∀ u ∈ (lc.take (k + 1)).map (Value.int .i64),u.oneCell'=true)
       have O7:Hid (((lc.take (k + 1)).map (Value.int .i64)).length=(k + 1) * 1):=hid (by rw [List.length_map,lt1]; omega)
       have CY:(w2.alloc (.cells #[] 3)).cell? ⟨bm,off + m * 5 + 2,none⟩=some (.slice (some ⟨bc,oc,none⟩) T P2):=e2';have y6:=hid lt1;have zi:=hid vj;clear Ld T9 WW e2 e2' lt1 vj hxb
       go_light
       go_wp2_with (at_builtin; refine wpList_append_own _ rfl _ _ 22 rfl (w2.heap.size) 3 n0 (.int .i64 0) 1 8 underlying22 ni nz0 nz1 nz2 rfl (by decide) _ _ _ rfl Yq ⟨bc,oc,none⟩ (k + 1) P2 ((lc.take (k + 1)).map (Value.int .i64)) rfl O7.out j1.out N9.out ?_ ?_ ?_ ?_; (focus (unfold maxLen; simp; omega)); (focus (simp; omega)); (focus (simp)); intro v' w4 Oq Pq _; refine halted ?_)
       have fk:Ext w2 w4:=Below.trans (Ext.box w2 (.cells #[] 3)) (below_grown Yq Pq (Nat.le_refl _) (Ext.box w2 (.cells #[] 3)).size);have F0:Q0q w4 0 3 (.int .i64) v' (lc.take (k + 1)):=by
        refine Q0q.weaken ?_ (Nat.zero_le w2.heap.size);simp only [List.length_nil,Nat.zero_add,List.map_nil,List.nil_append] at Oq;unfold Q0q;rw [y6.out];exact Oq
       clear Oq Pq Yq CY d2';unfold Q1o;obtain ⟨Ah,ch,rfl,C6⟩:=F0.shape;rw [y6.out] at F0 C6 ⊢;have tj:s.Q5v k (m + 1)=Q7d (lc.take (k + 1)) (s.Q5v k m):=by rw [<- zi.out]; rfl
       have Y6:∀ j,j < (s.Q5v k m).length -> ((s.Q5v k m).getD j []).length=k + 1:=Z6w (by rw [HN.out]; omega) (fun i h=>by rw [HN.out] at h; rw [Z8.out i h]; omega)
       have Ov:=X3g s k m;obtain ⟨us,ZG,Vw⟩:=HR.out.ext fk;have ur:us.length <= 8:=by rw [Vw.1]; omega
       have M9:=hid F0;obtain ⟨hh,Kd⟩:∃ x,lc.take (k + 1)=x:=⟨_,rfl⟩;have s8:hh.length=k + 1:=by rw [<- Kd]; exact y6.out
       rw [Kd] at tj M9;obtain ⟨rt,O5⟩:∃ x,s.Q5v k m=x:=⟨_,rfl⟩;rw [O5] at tj Y6 Vw Ov;have Sj:=hid tj;have VW:=hid Y6;have Dx:=hid Vw;have Jd:=hid s8;have dj:Hid (∀ y ∈ us,(idV y).oneCell'=true):=Vw.one;have W8:Hid (us.length=rt.length):=hid Vw.1;have yi:=Wz.out.trans fk;have EX:=hid yi;have Gd:W.heap.size <= w4.heap.size:=Nat.le_trans og.out.size fk.size;have E7:=hid fk;clear tj Y6 Vw s8 Kd O5 F0 y6 zi j1 N9 O7 yi fk HR;have Jp:=hid ZG
       rcases ZG.cells2 with ⟨rfl,YG⟩ | ⟨g0,cc,rfl,Sw,Ux,Bj,hcl⟩
       . have XG:=hid YG
         clear YG ZG;go_wp2
         go_loopw [8] (fun a wr=>∃ (n1:Nat),n1 <= us.length /\ a=.int .i64 n1 /\ Q2b hh rt n1=Q2b hh rt rt.length /\ Ext w4 wr) (fun a _=>(intOf a).toNat)
         case atStart=>exact ⟨us.length,Nat.le_refl _,by rw [XG.out]; rfl,by rw [Dx.out.1],Ext.refl _⟩
         case round =>
          obtain ⟨n1,S3,rfl,hpos,Wx⟩:=hrel;have W6:=hid hpos; clear hpos;have hz:n1=0:=by
           have:=XG.out;rw [this] at S3
           simpa using S3
          have HZ:Hid (0=Q2b hh rt rt.length):=by rw [<- W6.out,hz]; exact rfl
          subst hz;obtain ⟨wq,rfl⟩:∃ x,x=wr:=⟨_,rfl⟩;go_wp2;refine Flow.region [.w,.p,.p,.p,.w,.p,.w,.last,.p,.p,.p,.last,.last] [0,1,2,3,4,5,6,7,8,9,10,11,12] [[],[],[],[1,2],[0,1,2,3],[],[5],[0,1,2,3,4,5,6],[],[],[8,9],[0,1,2,3,4,5,6,7,8,9,10],[0,1,2,3,4,5,6,7,8,9,10,11]] [7,11,12]
           [⟨fun v wz=>Q1x wz (v 0) wq.heap.size 22,fun _ _ _ hx h=>h.ext hx⟩,.c 1 (.slice (none) 0 0),.c 2 (.int .i64 0),.c 3 (.slice none 0 0),⟨fun v wz=>(fun v w'=>Q0q w' wq.heap.size 22 idV (v 4) (us.take 0)) v wz,fun _ _ _ hx h=>Q0q.below h hx⟩,.c 5 ((Value.slice Ah (k + 1) ch)),⟨fun v wz=>Q3l wz (v 6) (Value.slice Ah (k + 1) ch),fun _ _ _ hx h=>h.ext hx⟩,.none,.c 8 (.slice (none) 0 0),.c 9 (.int .i64 0),.c 10 (.slice none 0 0),.none,.none]
           [fun v w1 w'=>Q0q w' wq.heap.size 22 idV (v 7) (us.take 0 ++ [(Value.slice Ah (k + 1) ch)]) /\ Below wq.heap.size w1 w',fun v w1 w'=>Q0q w' wq.heap.size 22 idV (v 11) (us.take 0 ++ [(Value.slice Ah (k + 1) ch)] ++ us.drop 0) /\ Below wq.heap.size w1 w',fun v w1 w'=>v 12=v 11 /\ Q0q w' wq.heap.size 22 idV (v 11) (us.take 0 ++ [(Value.slice Ah (k + 1) ch)] ++ us.drop 0) /\ Below wq.heap.size w1 w'] (by kernel_rfl) rfl (by kernel_rfl) ⟨?g0,?g1,?g2,?g3,?g4,?g5,?g6,?g7,?g8,?g9,?g10,?g11,?g12,trivial⟩ ?post
          case g0=>
           intro v w1 hx;intro K hK;go_simp;exact hK _ _ (Ext.box _ _) (Q1x.made _ _ _ hx.size)
          case g1 | g2 | g5 | g8 | g9=>
           intro v w1 hx;refine ⟨_,fun w=>?_,rfl⟩;go_simp
          case g3 | g10=>
           intro v w1 hx;(repeat intro (zq:v _=_));refine ⟨_,fun w=>?_,rfl⟩;go_simp
          case g4=>
           intro v w1 hx (q0:Q1x w1 (v 0) wq.heap.size 22) (q1:v 1=_) (q2:v 2=_) (q3:v 3=_);intro K hK;have l1:(us.take 0).length=0:=by rw [List.length_take]; omega
           refine Q4n _ _ 72 rfl wq.heap.size 22 i0 (.slice none 0 0) 24 underlying72 hi dq fq Zj rfl idV (v 0) (v 3) (us.take 0) (by go_simp) q0 (by go_simp) ?_ (fun y hy=>dj.out y (List.mem_of_mem_take hy)) (by omega) (by decide) hx.size (fun v' w' Yq Nq=>hK _ _ Nq Yq)
           rw [q3];exact ⟨none,0,by rw [l1],fun j hj=>by rw [l1] at hj; omega⟩
          case g6=>
           intro v w1 hx;(repeat intro (zq:v _=_));intro K hK;go_simp;exact hK _ _ (Ext.box _ _) (Q3l.made _ _ _)
          case g7=>
           intro v w1 hx _ (q1:v 1=_) (q2:v 2=_) (q3:v 3=_) (q4:(fun v w'=>Q0q w' wq.heap.size 22 idV (v 4) (us.take 0)) v w1) (q5:v 5=_) (q6:Q3l w1 (v 6) (Value.slice Ah (k + 1) ch));intro wl hT;obtain rfl:wl=w1:=hT;intro bb hbb;subst hbb;intro K hK;refine Q1r _ _ 72 rfl wq.heap.size 22 i0 (.slice none 0 0) 24 underlying72 hi dq fq Zj rfl idV (v 4) (v 6) (us.take 0) [(Value.slice Ah (k + 1) ch)] (by go_simp) q4 (by go_simp) (Q3l.src q6) (fun y hy=>by rw [List.mem_singleton] at hy; rw [hy]; exact (show (idV (Value.slice Ah (k + 1) ch)).oneCell'=true from rfl)) (by rw [List.length_take,List.length_singleton]; omega) (by decide) hx.size (fun v' w' Yq hg=>hK _ _ ⟨Yq,below_grown q4 hg (Nat.le_refl _) hx.size⟩)
          case g11=>
           intro v w1 hx _ (q1:v 1=_) (q2:v 2=_) (q3:v 3=_) _ (q5:v 5=_) _ (q8:v 8=_) (q9:v 9=_) (q10:v 10=_);intro wl hT;replace hT:(fun v w1 w'=>Q0q w' wq.heap.size 22 idV (v 7) (us.take 0 ++ [(Value.slice Ah (k + 1) ch)]) /\ Below wq.heap.size w1 w') v w1 wl:=hT;intro bb hbb;subst hbb;obtain ⟨Tg,Wy⟩:=hT;intro K hK;have oq:wq.heap.size <= wl.heap.size:=Nat.le_trans hx.size Wy.size;have l2:(us.drop 0).length=us.length - 0:=List.length_drop;refine Q1r _ _ 72 rfl wq.heap.size 22 i0 (.slice none 0 0) 24 underlying72 hi dq fq Zj rfl idV (v 7) (v 10) (us.take 0 ++ [(Value.slice Ah (k + 1) ch)]) (us.drop 0) (by go_simp) Tg (by go_simp) ?_ (fun y hy=>dj.out y (List.mem_of_mem_drop hy)) (by rw [List.length_append,List.length_take,List.length_singleton]; omega) (by decide) oq (fun v' w' Yq hg=>hK _ _ ⟨Yq,Wy.trans (below_grown Tg hg (Nat.le_refl _) oq)⟩)
           rw [q10];exact ⟨none,0,by rw [l2,XG.out]; rfl,fun j hj=>by rw [l2,XG.out] at hj; simp at hj⟩
          case g12=>
           intro v w1 hx _ (q1:v 1=_) (q2:v 2=_) (q3:v 3=_) _ (q5:v 5=_) _ (q8:v 8=_) (q9:v 9=_) (q10:v 10=_);intro wl hT;replace hT:(fun v w1 w'=>Q0q w' wq.heap.size 22 idV (v 11) (us.take 0 ++ [(Value.slice Ah (k + 1) ch)] ++ us.drop 0) /\ Below wq.heap.size w1 w') v w1 wl:=hT;intro bb hbb;subst hbb;intro K hK;go_simp;exact hK _ _ ⟨rfl,hT⟩
          case post =>
           intro v w1 hx (q0:Q1x w1 (v 0) wq.heap.size 22);(iterate 3 intro (zq:v _=_));intro (q4:(fun v w'=>Q0q w' wq.heap.size 22 idV (v 4) (us.take 0)) v w1);(iterate 1 intro (zq:v _=_));intro (q6:Q3l w1 (v 6) (Value.slice Ah (k + 1) ch));(iterate 3 intro (zq:v _=_));intro w2 hE;replace hE:(fun v w1 w'=>v 12=v 11 /\ Q0q w' wq.heap.size 22 idV (v 11) (us.take 0 ++ [(Value.slice Ah (k + 1) ch)] ++ us.drop 0) /\ Below wq.heap.size w1 w') v w1 w2:=hE;simp only [Flow.acts,Act.put];go_simp;obtain ⟨_,e2,e3⟩:=hE;have sj:=Y0x hx e3;have Qg:=RL.insert (Dx.out.ext (Wx.trans sj)) (M9.out.below (Wx.trans sj)) (Nat.zero_le rt.length);have Pg:=e2.weaken (show W.heap.size <= wq.heap.size from Nat.le_trans Gd Wx.size)
           have V6:Hid (s.Q5v k (m + 1)=rt.take 0 ++ [hh] ++ rt.drop 0):=Sj.out.trans (Z2t HZ.out (.inl rfl));have i8:Hid (RL _ _ _):=Qg;have ak:=(EX.out.trans Wx).trans sj;clear Qg q0 q4 q6 hx e3 sj;go_wp2
           all_goals
            go_roundw
            case rel=>exact ⟨m + 1,by omega,by go_num,⟨_,Pg,by rw [V6.out]; exact i8.out⟩,ak⟩
            case measure=>simp [intOf]; omega
       . have pz:=hid hcl
         clear ZG hcl;go_wp2
         go_loopw [8] (fun a wr=>∃ (n1:Nat),n1 <= us.length /\ a=.int .i64 n1 /\ Q2b hh rt n1=Q2b hh rt rt.length /\ Ext w4 wr) (fun a _=>(intOf a).toNat)
         case atStart=>exact ⟨us.length,Nat.le_refl _,rfl,by rw [Dx.out.1],Ext.refl _⟩
         case round =>
          obtain ⟨n1,S3,rfl,hpos,Wx⟩:=hrel;have W6:=hid hpos; clear hpos;obtain ⟨wq0,rfl⟩:∃ x,x=wr:=⟨_,rfl⟩
          by_cases hz:n1=0
          . have HZ:Hid (n1=Q2b hh rt rt.length):=by rw [<- W6.out,hz]; exact rfl
            have j3:Hid (n1=0 ∨ rt.getD (n1 - 1) [] ≠ hh):=.inl hz;have nz1:¬ (0:Int) < (n1:Int):=by omega
            have nz2:¬ cc < n1:=by omega
            clear hz;obtain ⟨wq,rfl⟩:∃ x,x=wq0:=⟨_,rfl⟩;go_wp2;refine Flow.region [.w,.p,.p,.p,.w,.p,.w,.last,.p,.p,.p,.last,.last] [0,1,2,3,4,5,6,7,8,9,10,11,12] [[],[],[],[1,2],[0,1,2,3],[],[5],[0,1,2,3,4,5,6],[],[],[8,9],[0,1,2,3,4,5,6,7,8,9,10],[0,1,2,3,4,5,6,7,8,9,10,11]] [7,11,12]
             [⟨fun v wz=>Q1x wz (v 0) wq.heap.size 22,fun _ _ _ hx h=>h.ext hx⟩,.c 1 (.slice (some ⟨g0,0,none⟩) us.length cc),.c 2 (.int .i64 n1),.c 3 (.slice (some ⟨g0,0,none⟩) n1 cc),⟨fun v wz=>(fun v w'=>Q0q w' wq.heap.size 22 idV (v 4) (us.take n1)) v wz,fun _ _ _ hx h=>Q0q.below h hx⟩,.c 5 ((Value.slice Ah (k + 1) ch)),⟨fun v wz=>Q3l wz (v 6) (Value.slice Ah (k + 1) ch),fun _ _ _ hx h=>h.ext hx⟩,.none,.c 8 (.slice (some ⟨g0,0,none⟩) us.length cc),.c 9 (.int .i64 n1),.c 10 (.slice (if cc=n1 then some ⟨g0,0,none⟩ else some ⟨g0,0 + n1,none⟩) (us.length - n1) (cc - n1)),.none,.none]
             [fun v w1 w'=>Q0q w' wq.heap.size 22 idV (v 7) (us.take n1 ++ [(Value.slice Ah (k + 1) ch)]) /\ Below wq.heap.size w1 w',fun v w1 w'=>Q0q w' wq.heap.size 22 idV (v 11) (us.take n1 ++ [(Value.slice Ah (k + 1) ch)] ++ us.drop n1) /\ Below wq.heap.size w1 w',fun v w1 w'=>v 12=v 11 /\ Q0q w' wq.heap.size 22 idV (v 11) (us.take n1 ++ [(Value.slice Ah (k + 1) ch)] ++ us.drop n1) /\ Below wq.heap.size w1 w'] (by kernel_rfl) rfl (by kernel_rfl) ⟨?g0,?g1,?g2,?g3,?g4,?g5,?g6,?g7,?g8,?g9,?g10,?g11,?g12,trivial⟩ ?post
            case g0=>
             intro v w1 hx;intro K hK;go_simp;exact hK _ _ (Ext.box _ _) (Q1x.made _ _ _ hx.size)
            case g1 | g2 | g5 | g8 | g9=>
             intro v w1 hx;refine ⟨_,fun w=>?_,rfl⟩;go_simp
            case g3 | g10=>
             intro v w1 hx;(repeat intro (zq:v _=_));refine ⟨_,fun w=>?_,rfl⟩;go_simp
            case g4=>
             intro v w1 hx (q0:Q1x w1 (v 0) wq.heap.size 22) (q1:v 1=_) (q2:v 2=_) (q3:v 3=_);intro K hK;have l1:(us.take n1).length=n1:=by rw [List.length_take]; omega
             refine Q4n _ _ 72 rfl wq.heap.size 22 i0 (.slice none 0 0) 24 underlying72 hi dq fq Zj rfl idV (v 0) (v 3) (us.take n1) (by go_simp) q0 (by go_simp) ?_ (fun y hy=>dj.out y (List.mem_of_mem_take hy)) (by omega) (by decide) hx.size (fun v' w' Yq Nq=>hK _ _ Nq Yq)
             rw [q3];exact ⟨_,_,by rw [l1],fun j hj=>⟨g0,0,rfl,by rw [List.getElem_take]; exact hx.cell (Wx.cell (pz.out j (by omega)))⟩⟩
            case g6=>
             intro v w1 hx;(repeat intro (zq:v _=_));intro K hK;go_simp;exact hK _ _ (Ext.box _ _) (Q3l.made _ _ _)
            case g7=>
             intro v w1 hx _ (q1:v 1=_) (q2:v 2=_) (q3:v 3=_) (q4:(fun v w'=>Q0q w' wq.heap.size 22 idV (v 4) (us.take n1)) v w1) (q5:v 5=_) (q6:Q3l w1 (v 6) (Value.slice Ah (k + 1) ch));intro wl hT;obtain rfl:wl=w1:=hT;intro bb hbb;subst hbb;intro K hK;refine Q1r _ _ 72 rfl wq.heap.size 22 i0 (.slice none 0 0) 24 underlying72 hi dq fq Zj rfl idV (v 4) (v 6) (us.take n1) [(Value.slice Ah (k + 1) ch)] (by go_simp) q4 (by go_simp) (Q3l.src q6) (fun y hy=>by rw [List.mem_singleton] at hy; rw [hy]; exact (show (idV (Value.slice Ah (k + 1) ch)).oneCell'=true from rfl)) (by rw [List.length_take,List.length_singleton]; omega) (by decide) hx.size (fun v' w' Yq hg=>hK _ _ ⟨Yq,below_grown q4 hg (Nat.le_refl _) hx.size⟩)
            case g11=>
             intro v w1 hx _ (q1:v 1=_) (q2:v 2=_) (q3:v 3=_) _ (q5:v 5=_) _ (q8:v 8=_) (q9:v 9=_) (q10:v 10=_);intro wl hT;replace hT:(fun v w1 w'=>Q0q w' wq.heap.size 22 idV (v 7) (us.take n1 ++ [(Value.slice Ah (k + 1) ch)]) /\ Below wq.heap.size w1 w') v w1 wl:=hT;intro bb hbb;subst hbb;obtain ⟨Tg,Wy⟩:=hT;intro K hK;have oq:wq.heap.size <= wl.heap.size:=Nat.le_trans hx.size Wy.size;have l2:(us.drop n1).length=us.length - n1:=List.length_drop;have Yx:Hid (∀ j (hj:j < us.length),wl.cell? ⟨g0,0 + j,none⟩=some (idV us[j])):=fun j hj=>(Wy.cell (p:=⟨g0,0 + j,none⟩) (Nat.lt_of_lt_of_le Bj Wx.size)).trans (hx.cell (Wx.cell (pz.out j hj)));refine Q1r _ _ 72 rfl wq.heap.size 22 i0 (.slice none 0 0) 24 underlying72 hi dq fq Zj rfl idV (v 7) (v 10) (us.take n1 ++ [(Value.slice Ah (k + 1) ch)]) (us.drop n1) (by go_simp) Tg (by go_simp) ?_ (fun y hy=>dj.out y (List.mem_of_mem_drop hy)) (by rw [List.length_append,List.length_take,List.length_singleton]; omega) (by decide) oq (fun v' w' Yq hg=>hK _ _ ⟨Yq,Wy.trans (below_grown Tg hg (Nat.le_refl _) oq)⟩)
             rw [q10];exact ⟨_,_,by rw [l2],fun j hj=>⟨g0,0 + n1,by rw [if_neg (by omega)],by rw [List.getElem_drop,Nat.add_assoc]; exact Yx.out (n1 + j) (by omega)⟩⟩
            case g12=>
             intro v w1 hx _ (q1:v 1=_) (q2:v 2=_) (q3:v 3=_) _ (q5:v 5=_) _ (q8:v 8=_) (q9:v 9=_) (q10:v 10=_);intro wl hT;replace hT:(fun v w1 w'=>Q0q w' wq.heap.size 22 idV (v 11) (us.take n1 ++ [(Value.slice Ah (k + 1) ch)] ++ us.drop n1) /\ Below wq.heap.size w1 w') v w1 wl:=hT;intro bb hbb;subst hbb;intro K hK;go_simp;exact hK _ _ ⟨rfl,hT⟩
            case post =>
             intro v w1 hx (q0:Q1x w1 (v 0) wq.heap.size 22);(iterate 3 intro (zq:v _=_));intro (q4:(fun v w'=>Q0q w' wq.heap.size 22 idV (v 4) (us.take n1)) v w1);(iterate 1 intro (zq:v _=_));intro (q6:Q3l w1 (v 6) (Value.slice Ah (k + 1) ch));(iterate 3 intro (zq:v _=_));intro w2 hE;replace hE:(fun v w1 w'=>v 12=v 11 /\ Q0q w' wq.heap.size 22 idV (v 11) (us.take n1 ++ [(Value.slice Ah (k + 1) ch)] ++ us.drop n1) /\ Below wq.heap.size w1 w') v w1 w2:=hE;simp only [Flow.acts,Act.put];go_simp;obtain ⟨_,e2,e3⟩:=hE;have sj:=Y0x hx e3;have Qg:=RL.insert (Dx.out.ext (Wx.trans sj)) (M9.out.below (Wx.trans sj)) (show n1 <= rt.length by have:=W8.out; omega)
             have Pg:=e2.weaken (show W.heap.size <= wq.heap.size from Nat.le_trans Gd Wx.size)
             have V6:Hid (s.Q5v k (m + 1)=rt.take n1 ++ [hh] ++ rt.drop n1):=Sj.out.trans (Z2t HZ.out j3.out);have i8:Hid (RL _ _ _):=Qg;have ak:=(EX.out.trans Wx).trans sj;clear Qg q0 q4 q6 hx e3 sj;go_wp2
             all_goals
              go_roundw
              case rel=>exact ⟨m + 1,by omega,by go_num,⟨_,Pg,by rw [V6.out]; exact i8.out⟩,ak⟩
              case measure=>simp [intOf]; omega
          . have i1:(0:Int) < (n1:Int):=by omega
            have i2:(0:Int) <= (n1:Int) - 1:=by omega
            have i3:(n1:Int) - 1 < (us.length:Int):=by omega
            have i4:((n1:Int) - 1).toNat=n1 - 1:=by omega
            have nz2:¬ cc < n1:=by omega
            have Wq:=Wx.cell (pz.out (n1 - 1) (by omega))
            rw [Nat.zero_add] at Wq;have Sy:=(Dx.out.ext Wx).2 (n1 - 1) (by have:=W8.out; omega)
            rw [Q0u _ (show n1 - 1 < us.length by omega)] at Sy
            have Pw:=VW.out (n1 - 1) (by have:=W8.out; omega)
            have pJ:Q2b hh rt n1=if Q2f hh (rt.getD (n1 - 1) []) then Q2b hh rt (n1 - 1) else n1:=by
             obtain ⟨m,rfl⟩:∃ m,n1=m + 1:=⟨n1 - 1,by omega⟩
             rfl
            obtain ⟨ml,b5⟩:∃ ml,rt.getD (n1 - 1) []=ml:=⟨_,rfl⟩;have jY:=hid b5;rw [b5] at Sy pJ Pw;have S0:Q2f hh ml=Q5k hh ml:=by unfold Q2f; rw [if_pos (Jd.out.trans Pw.symm)]
            rw [S0] at pJ;have Sy:Q0g wq0 (idV (us[n1 - 1]'(by omega))) ml:=Sy.ints (by omega)
            have D7:=hid Sy;have F2:Hid (hh.length=ml.length):=Jd.out.trans Pw.symm;have D6:Hid (Q0g w4 (.slice Ah (k + 1) ch) hh):=M9.out.ints (by rw [Jd.out]; omega)
            have xi:=hid pJ;clear b5 pJ hz Sy S0 Pw;cases hbf:Q5k hh ml with
            | true =>
              go_wp2_with (go_at_call 117; refine (X5n _ _ _ _ _ (D6.out.ext Wx) D7.out F2.out).mono ?_; rintro e w5 ⟨rfl,yq⟩);go_roundw
              case rel=>exact ⟨n1 - 1,by omega,by go_num,by rw [<- W6.out,xi.out,hbf]; rfl,Wx.trans yq⟩
              case measure=>simp [intOf]; omega
            | false =>
              have HZ:Hid (n1=Q2b hh rt rt.length):=by rw [<- W6.out,xi.out,hbf]; rfl
              cases hsm:decide (ml=hh) with
              | true =>
                have Fd:=Wq;go_wp2_with (first | (go_at_call 117; refine (X5n _ _ _ _ _ (D6.out.ext Wx) D7.out F2.out).mono ?_; rintro e w5 ⟨rfl,yq⟩; have U6:=yq.cell Wq) | (go_at_call 54; refine (Q2s _ _ _ _ _ (D7.out.ext yq) ((D6.out.ext Wx).ext yq)).mono ?_; rintro e w6 ⟨rfl,Mj⟩; rw [hsm]))
                go_roundw
                case rel=>exact ⟨m + 1,by omega,by go_num,⟨us,Jp.out.below (Wx.trans (yq.trans Mj)),by rw [Sj.out,J3g HZ.out (by omega) (jY.out.trans (of_decide_eq_true hsm))]; exact Dx.out.ext (Wx.trans (yq.trans Mj))⟩,EX.out.trans (Wx.trans (yq.trans Mj))⟩
                case measure=>simp [intOf]; omega
              | false =>
                have j3:Hid (n1=0 ∨ rt.getD (n1 - 1) [] ≠ hh):=.inr (by rw [jY.out]; exact of_decide_eq_false hsm)
                go_wp2_with (first | (go_at_call 117; refine (X5n _ _ _ _ _ (D6.out.ext Wx) D7.out F2.out).mono ?_; rintro e w5 ⟨rfl,yq⟩; have U6:=yq.cell Wq) | (go_at_call 54; refine (Q2s _ _ _ _ _ (D7.out.ext yq) ((D6.out.ext Wx).ext yq)).mono ?_; rintro e w6 ⟨rfl,Mj⟩; rw [hsm]))
                replace Wx:=Wx.trans (yq.trans Mj);clear yq Mj Wq U6 D7;obtain ⟨wq,rfl⟩:∃ x,x=w6:=⟨_,rfl⟩;refine Flow.region [.w,.p,.p,.p,.w,.p,.w,.last,.p,.p,.p,.last,.last] [0,1,2,3,4,5,6,7,8,9,10,11,12] [[],[],[],[1,2],[0,1,2,3],[],[5],[0,1,2,3,4,5,6],[],[],[8,9],[0,1,2,3,4,5,6,7,8,9,10],[0,1,2,3,4,5,6,7,8,9,10,11]] [7,11,12]
                 [⟨fun v wz=>Q1x wz (v 0) wq.heap.size 22,fun _ _ _ hx h=>h.ext hx⟩,.c 1 (.slice (some ⟨g0,0,none⟩) us.length cc),.c 2 (.int .i64 n1),.c 3 (.slice (some ⟨g0,0,none⟩) n1 cc),⟨fun v wz=>(fun v w'=>Q0q w' wq.heap.size 22 idV (v 4) (us.take n1)) v wz,fun _ _ _ hx h=>Q0q.below h hx⟩,.c 5 ((Value.slice Ah (k + 1) ch)),⟨fun v wz=>Q3l wz (v 6) (Value.slice Ah (k + 1) ch),fun _ _ _ hx h=>h.ext hx⟩,.none,.c 8 (.slice (some ⟨g0,0,none⟩) us.length cc),.c 9 (.int .i64 n1),.c 10 (.slice (if cc=n1 then some ⟨g0,0,none⟩ else some ⟨g0,0 + n1,none⟩) (us.length - n1) (cc - n1)),.none,.none]
                 [fun v w1 w'=>Q0q w' wq.heap.size 22 idV (v 7) (us.take n1 ++ [(Value.slice Ah (k + 1) ch)]) /\ Below wq.heap.size w1 w',fun v w1 w'=>Q0q w' wq.heap.size 22 idV (v 11) (us.take n1 ++ [(Value.slice Ah (k + 1) ch)] ++ us.drop n1) /\ Below wq.heap.size w1 w',fun v w1 w'=>v 12=v 11 /\ Q0q w' wq.heap.size 22 idV (v 11) (us.take n1 ++ [(Value.slice Ah (k + 1) ch)] ++ us.drop n1) /\ Below wq.heap.size w1 w'] (by kernel_rfl) rfl (by kernel_rfl) ⟨?g0,?g1,?g2,?g3,?g4,?g5,?g6,?g7,?g8,?g9,?g10,?g11,?g12,trivial⟩ ?post
                case g0=>
                 intro v w1 hx;intro K hK;go_simp;exact hK _ _ (Ext.box _ _) (Q1x.made _ _ _ hx.size)
                case g1 | g2 | g5 | g8 | g9=>
                 intro v w1 hx;refine ⟨_,fun w=>?_,rfl⟩;go_simp
                case g3 | g10=>
                 intro v w1 hx;(repeat intro (zq:v _=_));refine ⟨_,fun w=>?_,rfl⟩;go_simp
                case g4=>
                 intro v w1 hx (q0:Q1x w1 (v 0) wq.heap.size 22) (q1:v 1=_) (q2:v 2=_) (q3:v 3=_);intro K hK;have l1:(us.take n1).length=n1:=by rw [List.length_take]; omega
                 refine Q4n _ _ 72 rfl wq.heap.size 22 i0 (.slice none 0 0) 24 underlying72 hi dq fq Zj rfl idV (v 0) (v 3) (us.take n1) (by go_simp) q0 (by go_simp) ?_ (fun y hy=>dj.out y (List.mem_of_mem_take hy)) (by omega) (by decide) hx.size (fun v' w' Yq Nq=>hK _ _ Nq Yq)
                 rw [q3];exact ⟨_,_,by rw [l1],fun j hj=>⟨g0,0,rfl,by rw [List.getElem_take]; exact hx.cell (Wx.cell (pz.out j (by omega)))⟩⟩
                case g6=>
                 intro v w1 hx;(repeat intro (zq:v _=_));intro K hK;go_simp;exact hK _ _ (Ext.box _ _) (Q3l.made _ _ _)
                case g7=>
                 intro v w1 hx _ (q1:v 1=_) (q2:v 2=_) (q3:v 3=_) (q4:(fun v w'=>Q0q w' wq.heap.size 22 idV (v 4) (us.take n1)) v w1) (q5:v 5=_) (q6:Q3l w1 (v 6) (Value.slice Ah (k + 1) ch));intro wl hT;obtain rfl:wl=w1:=hT;intro bb hbb;subst hbb;intro K hK;refine Q1r _ _ 72 rfl wq.heap.size 22 i0 (.slice none 0 0) 24 underlying72 hi dq fq Zj rfl idV (v 4) (v 6) (us.take n1) [(Value.slice Ah (k + 1) ch)] (by go_simp) q4 (by go_simp) (Q3l.src q6) (fun y hy=>by rw [List.mem_singleton] at hy; rw [hy]; exact (show (idV (Value.slice Ah (k + 1) ch)).oneCell'=true from rfl)) (by rw [List.length_take,List.length_singleton]; omega) (by decide) hx.size (fun v' w' Yq hg=>hK _ _ ⟨Yq,below_grown q4 hg (Nat.le_refl _) hx.size⟩)
                case g11=>
                 intro v w1 hx _ (q1:v 1=_) (q2:v 2=_) (q3:v 3=_) _ (q5:v 5=_) _ (q8:v 8=_) (q9:v 9=_) (q10:v 10=_);intro wl hT;replace hT:(fun v w1 w'=>Q0q w' wq.heap.size 22 idV (v 7) (us.take n1 ++ [(Value.slice Ah (k + 1) ch)]) /\ Below wq.heap.size w1 w') v w1 wl:=hT;intro bb hbb;subst hbb;obtain ⟨Tg,Wy⟩:=hT;intro K hK;have oq:wq.heap.size <= wl.heap.size:=Nat.le_trans hx.size Wy.size;have l2:(us.drop n1).length=us.length - n1:=List.length_drop;have Yx:Hid (∀ j (hj:j < us.length),wl.cell? ⟨g0,0 + j,none⟩=some (idV us[j])):=fun j hj=>(Wy.cell (p:=⟨g0,0 + j,none⟩) (Nat.lt_of_lt_of_le Bj Wx.size)).trans (hx.cell (Wx.cell (pz.out j hj)));refine Q1r _ _ 72 rfl wq.heap.size 22 i0 (.slice none 0 0) 24 underlying72 hi dq fq Zj rfl idV (v 7) (v 10) (us.take n1 ++ [(Value.slice Ah (k + 1) ch)]) (us.drop n1) (by go_simp) Tg (by go_simp) ?_ (fun y hy=>dj.out y (List.mem_of_mem_drop hy)) (by rw [List.length_append,List.length_take,List.length_singleton]; omega) (by decide) oq (fun v' w' Yq hg=>hK _ _ ⟨Yq,Wy.trans (below_grown Tg hg (Nat.le_refl _) oq)⟩)
                 rw [q10];exact ⟨_,_,by rw [l2],fun j hj=>⟨g0,0 + n1,by rw [if_neg (by omega)],by rw [List.getElem_drop,Nat.add_assoc]; exact Yx.out (n1 + j) (by omega)⟩⟩
                case g12=>
                 intro v w1 hx _ (q1:v 1=_) (q2:v 2=_) (q3:v 3=_) _ (q5:v 5=_) _ (q8:v 8=_) (q9:v 9=_) (q10:v 10=_);intro wl hT;replace hT:(fun v w1 w'=>Q0q w' wq.heap.size 22 idV (v 11) (us.take n1 ++ [(Value.slice Ah (k + 1) ch)] ++ us.drop n1) /\ Below wq.heap.size w1 w') v w1 wl:=hT;intro bb hbb;subst hbb;intro K hK;go_simp;exact hK _ _ ⟨rfl,hT⟩
                case post =>
                 intro v w1 hx (q0:Q1x w1 (v 0) wq.heap.size 22);(iterate 3 intro (zq:v _=_));intro (q4:(fun v w'=>Q0q w' wq.heap.size 22 idV (v 4) (us.take n1)) v w1);(iterate 1 intro (zq:v _=_));intro (q6:Q3l w1 (v 6) (Value.slice Ah (k + 1) ch));(iterate 3 intro (zq:v _=_));intro w2 hE;replace hE:(fun v w1 w'=>v 12=v 11 /\ Q0q w' wq.heap.size 22 idV (v 11) (us.take n1 ++ [(Value.slice Ah (k + 1) ch)] ++ us.drop n1) /\ Below wq.heap.size w1 w') v w1 w2:=hE;simp only [Flow.acts,Act.put];go_simp;obtain ⟨_,e2,e3⟩:=hE;have sj:=Y0x hx e3;have Qg:=RL.insert (Dx.out.ext (Wx.trans sj)) (M9.out.below (Wx.trans sj)) (show n1 <= rt.length by have:=W8.out; omega)
                 have Pg:=e2.weaken (show W.heap.size <= wq.heap.size from Nat.le_trans Gd Wx.size)
                 have V6:Hid (s.Q5v k (m + 1)=rt.take n1 ++ [hh] ++ rt.drop n1):=Sj.out.trans (Z2t HZ.out j3.out);have i8:Hid (RL _ _ _):=Qg;have ak:=(EX.out.trans Wx).trans sj;clear Qg q0 q4 q6 hx e3 sj;go_wp2
                 all_goals
                  go_roundw
                  case rel=>exact ⟨m + 1,by omega,by go_num,⟨_,Pg,by rw [V6.out]; exact i8.out⟩,ak⟩
                  case measure=>simp [intOf]; omega
     . have ie:m=n:=by omega
       subst ie;have oq:=X3g s k m;have Ed:(s.Q5t k).length <= 6 * 8:=Nat.le_trans (X5t s k) (Nat.mul_le_mul (by omega) (by rw [HN.out]; omega))
       have qz:Hid ((s.Q5v k m).length <= 2000):=hid (by omega)
       have Dd:Hid ((s.Q5t k).length <= 2000):=hid (by omega)
       have Cd:Hid (W.heap.size <= w2.heap.size):=hid og.out.size;have tj:s.Q5t (k + 1)=s.Q5t k ++ s.Q5v k m:=by rw [<- HN.out]; rfl
       have Sj:=hid tj;have F3:True:=trivial;clear oq Ed tj;go_wp2_with (refine Q2i (o:=⟨some 74,_,_,_,_,_⟩) rfl ?_; refine X8s (.tmp 72) (.tmp 73) rfl rfl (HO.out.ext Wz.out) rfl HR.out Dd.out qz.out Cd.out ?_; intro v' w9 Oq Nj);have Zw:=hid Oq;have sg:Hid (Ext W w9):=Below.trans og.out Nj;clear Oq Nj;go_wp2;go_roundw
       case rel=>exact ⟨k + 1,by omega,by go_num,by rw [Sj.out]; exact Zw.out,sg.out⟩
       case measure=>simp [intOf]; omega
  . have Bc:k=T:=by omega
    subst Bc;have he:s.hist=s.Q5t k:=by rw [<- HT.out]; rfl
    have HE:=hid he;clear he;go_wp2;go_ret;exact ⟨_,rfl,by rw [HE.out]; exact HO.out.weaken HW.out.size,HW.out.trans kJ.out⟩
def cdN (n k:Nat):Nat:=n / 2 ^ k
def cdB (n k:Nat):Bool:=n.testBit k
theorem J3c (n:Nat):cdN n 0=n:=by unfold cdN; simp
theorem Z5s (s:Q0b) (n:Nat) {k:Nat} (hk:k < s.hist.length):(Q4f s n).take (k + 1)=(Q4f s n).take k ++ [⟨s.hist.getD k [],cdB n k⟩]:=by
 have hl:k < (Q4f s n).length:=by unfold Q4f; simpa using hk
 rw [List.take_succ_eq_append_getElem hl]
 congr 2
 unfold Q4f;simp [cdB]
theorem X3r (s:Q0b) (n:Nat):(Q4f s n).length=s.hist.length:=by unfold Q4f; simp
theorem Z2a (w:World) (v:Value) (s:Q0b) (n:Nat) (hv:Q0i w v s) (he:s.err=0) (hn:n < 2 ^ 63) :
    Calls prog 36 #[v,.int .i64 (n:Int)] w fun e w'=>∃ x,e=.returned x /\ J4j 115 w w' x (Q4f s n) /\ Ext w w':=by
 obtain ⟨i0,hi,dq,fq,Zj⟩:=info_parts J4o;have hS:=Q0r.of he;have s8:=Q7o hS;have Bd:=Y4f hS;have HV:=hid hv;have AJ:=hid he;have h8:Hid (∀ h ∈ s.hist,h.length <= 6):=Q6i hS;obtain ⟨a,b,rfl,-⟩:=hv;have ha:∃ A n c,a=.slice A n c:=by obtain ⟨_,_,e,h2⟩:=HV.out; cases e; obtain ⟨A,c,e,-⟩:=h2.ships.opened; exact ⟨A,_,c,e⟩
 have hb:∃ A n c,b=.slice A n c:=by obtain ⟨_,_,e,h2⟩:=HV.out; cases e; obtain ⟨A,c,e,-⟩:=h2.members.opened; exact ⟨A,_,c,e⟩
 obtain ⟨A1,n1,ca1,rfl⟩:=ha;obtain ⟨A2,n2,ca2,rfl⟩:=hb;have HP:=hid (X3r s n);have az:Hid (∀ k,k < s.hist.length -> (Q4f s n).take (k + 1)=(Q4f s n).take k ++ [⟨s.hist.getD k [],cdB n k⟩]):=fun k hk=>Z5s s n hk;clear hS he;go_enter func36,ntmps36;go_wp2_with fail;obtain ⟨W,Mq,k0,k1,Rq,eW⟩:=Q4p w 25 #[.int .i64 s.limit,.slice A1 n1 ca1,.slice A2 n2 ca2] 47 #[.slice none 0 0];rw [Mq];clear Mq;have Ad:=hid (HV.out.ext Rq.out);obtain ⟨gs,Rj⟩:∃ x,w.heap.size=x:=⟨_,rfl⟩;have rx:=hid Rj;rw [Rj] at k0 k1 eW ⊢;have K1:=hid k1;have c0:=k0.cell 0;have c1:=k0.cell 1;have c2:=k0.cell 2;simp only [Go.Tw.gA,Go.Tw.gB,Go.Tw.gC] at c0 c1 c2;clear k0 k1 Rj;go_wp2_with (go_at_call 44; refine (X1v _ _ s Ad.out AJ.out).mono ?_; rintro e wh ⟨xh,rfl,Bw,zJ⟩; refine halted ?_);obtain ⟨vs,vi,Ov⟩:=Bw;have yJ:=Ov.1
 rcases vi.cells2 with ⟨rfl,YG⟩ | ⟨g0,cc,rfl,Sw,Ux,Bj,hcl⟩
 . exfalso
   rw [YG] at yJ;simp at yJ;omega
 obtain ⟨H,hH⟩:∃ x,s.hist.length=x:=⟨_,rfl⟩;rw [hH] at yJ s8 az HP;rw [yJ] at Sw;have W8:=hid yJ;have M9:=hid hH;have pz:=hid hcl;have Dx:=hid Ov;have Ev:=Ext.box wh (.cells #[.slice none 0 0] 47);have N0:=Blk.made wh 47 #[.slice none 0 0];have ZJ:(wh.alloc (.cells #[.slice none 0 0] 47)).heap.size=wh.heap.size + 1:=by simp
 rw [yJ];unfold Q1o;go_wp2_with fail;obtain ⟨gp,lz⟩:∃ x,wh.heap.size=x:=⟨_,rfl⟩;obtain ⟨wp,NV⟩:∃ X,wh.alloc (.cells #[.slice none 0 0] 47)=X:=⟨_,rfl⟩;rw [NV,lz] at N0 ZJ;rw [NV] at Ev;rw [NV,lz];have Gy:=hid lz;have ui:=hid zJ;have Gp:=hid Ev;have Pp:gs + 1 < gp:=by have:=zJ.size; omega
 clear NV lz vi Ov hcl yJ hH Bd zJ c0 c1 c2
 go_loopw [1,7] (fun c i wr=>∃ (k:Nat) (vo:Value) (qs:List (Value × Rul)),k <= H /\ i=.int .i64 k /\ c=.int .i64 (cdN n k:Nat) /\ Blk wr gp 47 #[vo] /\ Q1d wr (gp + 1) 115 2 Q5m vo qs /\ qs.map (·.2)=(Q4f s n).take k /\ RuR wr qs /\ Ext wh wr /\ gp + 1 <= wr.heap.size) (fun _ i _=>H - (intOf i).toNat)
 case atStart=>exact ⟨0,_,[],Nat.zero_le _,rfl,by rw [J3c],N0,Q1d.nil _ _ _ _ _,rfl,(fun q hq=>by simp at hq),Gp.out,by omega⟩
 case round =>
  obtain ⟨k,vo,qs,hk,rfl,rfl,Zx,Yq,qx,Vw,Gq,oq⟩:=hrel;have xz:qs.length=k:=by rw [<- List.length_map (f:=(·.2)),qx,List.length_take,HP.out]; omega
  have Ey:=hid qx;have T0:=hid Vw;have ez:=hid Zx;have kq:=hid Yq;have Pj:=hid Gq
  by_cases Uq:k < H
  . have zj:(k:Int) < H:=by omega
    have xJ:=Gq.cell (pz.out k (by rw [W8.out]; exact Uq))
    rw [Nat.zero_add] at xJ;have Vj:=Dx.out.2 k (by rw [M9.out]; exact Uq)
    rw [Q0u _ (show k < vs.length by rw [W8.out]; exact Uq)] at Vj
    obtain ⟨ya,ti⟩:∃ x,vs[k]'(by rw [W8.out]; exact Uq)=x:=⟨_,rfl⟩
    have xJ:wr.cell? ⟨g0,k,none⟩=some (vs[k]'(by rw [W8.out]; exact Uq)):=xJ
    rw [ti] at xJ Vj;obtain ⟨X,Sq,rfl,tQ⟩:=Vj.shape;have ey:=az.out k Uq;have Fp:(s.hist.getD k []).length <= 6:=by rw [Q0u _ (by rw [M9.out]; exact Uq)]; exact h8.out _ (List.getElem_mem _)
    obtain ⟨l,hl⟩:∃ x,s.hist.getD k []=x:=⟨_,rfl⟩;rw [hl] at xJ Vj ey Fp;have Ep:=hid xJ;have UW:=hid ey;have W4:=hid (Vj.below Gq);have Kj:((cdN n k:Nat):Int).tmod 2=1 ↔ cdB n k=true:=by
     have:=Z2x n k;unfold cdN cdB;rw [<- this]; simp
    have T6:(((cdN n k:Nat):Int).tmod 2 == 1)=cdB n k:=Z2x n k;have C6:((cdN n k:Nat):Int).tdiv 2=((cdN n (k + 1):Nat):Int):=Z9f n k;have TW:cdN n k <= n:=Nat.div_le_self _ _;have SW:cdN n (k + 1) <= n:=Nat.div_le_self _ _;obtain ⟨c,hc⟩:∃ x,cdN n k=x:=⟨_,rfl⟩;obtain ⟨c2,Yx⟩:∃ x,cdN n (k + 1)=x:=⟨_,rfl⟩;obtain ⟨q,hq⟩:∃ x,cdB n k=x:=⟨_,rfl⟩;rw [hc] at T6 C6 TW ⊢;rw [Yx] at C6 SW;rw [hq] at T6 UW;have RW:((c:Int) % 2 == 1)=q:=by rw [<- T6,Int.tmod_eq_emod_of_nonneg (by omega)]
    have qj:=hid Yx;have M6:=hid T6;have zd:=hid RW;have Dp:Hid (wrap64 (c2:Int)=c2):=hid (by unfold wrap64; omega)
    obtain ⟨wq,rfl⟩:∃ Z,Z=wr:=⟨_,rfl⟩;have Xq:=(Ext.refl wq).drew;clear Zx Yq qx Vw Gq xJ Vj ey hl ti hc hq Kj Yx T6 RW;go_wp2_with fail;refine Flow.Q3q [.p,.w,.p,.p,.p,.w,.p,.p,.p,.p,.w,.last,.last,.last] [0,1,2,3,4,5,6,7,8,9,10,11,12,13] [[],[0],[],[],[2,3],[2,3,4],[],[6],[6,7],[2,3,4,5,6,7,8],[2,3,4,5,6,7,8,9],[0,1,2,3,4,5,6,7,8,9,10],[0,1,2,3,4,5,6,7,8,9,10,11],[0,1,2,3,4,5,6,7,8,9,10,11,12]] [11,12,13]
     [.c 0 (.pointer (some ⟨gp,0,none⟩)),.c 1 (vo),.c 2 (.slice (some ⟨g0,0,none⟩) H cc),.c 3 (.int .i64 (k:Int)),.c 4 (.pointer (some ⟨g0,k,none⟩)),.c 5 (.slice X l.length Sq),.c 6 (.int .i64 (c:Int)),.c 7 (.int .i64 ((c:Int).tmod 2)),.c 8 (.bool q),⟨fun v wz=>(fun v w'=>v 9=.agg #[.slice X l.length Sq,.bool q]) v wz,by intro _ _ _ _ h; exact h⟩,⟨fun v wz=>(fun v w'=>∃ g,v 10=.slice (some ⟨g,0,none⟩) 1 1 /\ Blk w' g 115 (Q5m (.slice X l.length Sq,⟨l,q⟩)).toArray) v wz,by rintro v a b hx ⟨g,h1,h2⟩; exact ⟨g,h1,h2.ext hx⟩⟩,.none,.none,.none]
     [fun v w1 w'=>Q1d w' (gp + 1) 115 2 Q5m (v 11) (qs ++ [(.slice X l.length Sq,⟨l,q⟩)]) /\ w1.grownBy w' vo.ownBlock,fun v w1 w'=>v 12=.pointer (some ⟨gp,0,none⟩) /\ Q1d w' (gp + 1) 115 2 Q5m (v 11) (qs ++ [(.slice X l.length Sq,⟨l,q⟩)]) /\ w1.grownBy w' vo.ownBlock,fun v w1 w'=>∃ x wm,Q1d wm (gp + 1) 115 2 Q5m x (qs ++ [(.slice X l.length Sq,⟨l,q⟩)]) /\ w1.grownBy wm vo.ownBlock /\ w'=wm.setCell ⟨gp,0,none⟩ x] (by kernel_rfl) rfl (by kernel_rfl) ⟨?g0,?g1,?g2,?g3,?g4,?g5,?g6,?g7,?g8,?g9,?g10,?g11,?g12,?g13,trivial⟩ ?post
    case g0 | g2 | g3 | g6=>
     intro v w1 hx;intro bb hbb;subst hbb;refine ⟨_,fun w=>?_,rfl⟩;go_simp
    case g1 | g5=>
     intro v w1 hx;(repeat intro (zq:v _=_));intro bb hbb;subst hbb;have n0:w1.cell? ⟨gp,0,none⟩=some vo:=(ez.out.ext (Xq.trans hx)).cell 0;have n1:w1.cell? ⟨g0,k,none⟩=some (.slice X l.length Sq):=(Xq.trans hx).cell Ep.out;intro K hK;go_simp;exact hK _ _ (Ext.refl _) rfl
    case g4 | g7=>
     intro v w1 hx;(repeat intro (zq:v _=_));intro bb hbb;subst hbb;refine ⟨_,fun w=>?_,rfl⟩;go_simp
    case g8=>
     intro v w1 hx;(repeat intro (zq:v _=_));intro bb hbb;subst hbb;refine ⟨.bool q,fun w=>?_,rfl⟩;go_simp
     (first | exact M6.out | (rw [M6.out]) | (rw [zd.out]))
    case g9=>
     intro v w1 hx;(repeat intro (zq:v _=_));intro bb hbb;have o1:bb.eval (.tmp 21)=.slice X l.length Sq:=fzg11
     have o2:bb.eval (.tmp 24)=.bool q:=fzg11
     exact ⟨_,fun w=>X5u _ (.tmp 21) (.tmp 24) rfl o1 o2 (fun w=>Y6r w _ _ _ _),rfl⟩
    case g10=>
     intro v w1 hx (q2:v 2=_) (q3:v 3=_) (q4:v 4=_) (q5:v 5=_) (q6:v 6=_) (q7:v 7=_) (q8:v 8=_) (q9:(fun v w'=>v 9=.agg #[.slice X l.length Sq,.bool q]) v w1);intro bb hbb;intro K hK;have o1:bb.eval (.tmp 25)=.agg #[.slice X l.length Sq,.bool q]:=fzg11
     exact Q3o 45 115 (.tmp 25) rfl o1 (Z9l w1 _ _ _ _) (hK _ _ (Ext.box _ _) ⟨_,rfl,Blk.made _ _ _⟩)
    case g11=>
     intro v w1 hx (q0:v 0=_) (q1:v 1=_) (q2:v 2=_) (q3:v 3=_) (q4:v 4=_) (q5:v 5=_) (q6:v 6=_) (q7:v 7=_) (q8:v 8=_) _ (q10:(fun v w'=>∃ g,v 10=.slice (some ⟨g,0,none⟩) 1 1 /\ Blk w' g 115 (Q5m (.slice X l.length Sq,⟨l,q⟩)).toArray) v w1);intro wl hT;obtain rfl:wl=w1:=hT;intro bb hbb;intro K hK;obtain ⟨g,VV,D5⟩:=q10;have o1:bb.eval (.tmp 17)=vo:=fzg11
     have o2:bb.eval (.tmp 26)=.slice (some ⟨g,0,none⟩) 1 1:=fzg11
     have Zq:=Xq.trans hx;exact Q2y _ _ 45 rfl (gp + 1) 115 i0 (.agg #[.slice none 0 0,.bool false]) 2 32 underlying45 hi dq fq Zj rfl (by decide) Q5m Q4b vo _ (.slice X l.length Sq,⟨l,q⟩) o1 (kq.out.below Zq) ⟨g,0,none⟩ 1 o2 (Q6d D5) (Z4f (q:=(.slice X l.length Sq,⟨l,q⟩)) W4.out) (by omega) (by decide) (by have:=Zq.size; omega) (fun v' w' h1 h2=>hK _ _ ⟨h1,h2⟩)
    case g12=>
     intro v w1 hx (q0:v 0=_) (q1:v 1=_) (q2:v 2=_) (q3:v 3=_) (q4:v 4=_) (q5:v 5=_) (q6:v 6=_) (q7:v 7=_) (q8:v 8=_) _ _;intro wl hT;replace hT:(fun v w1 w'=>Q1d w' (gp + 1) 115 2 Q5m (v 11) (qs ++ [(.slice X l.length Sq,⟨l,q⟩)]) /\ w1.grownBy w' vo.ownBlock) v w1 wl:=hT;intro bb hbb;subst hbb;intro K hK;go_simp;exact hK _ _ ⟨rfl,hT⟩
    case g13=>
     intro v w1 hx (q0:v 0=_) (q1:v 1=_) (q2:v 2=_) (q3:v 3=_) (q4:v 4=_) (q5:v 5=_) (q6:v 6=_) (q7:v 7=_) (q8:v 8=_) _ _;intro wl hT;replace hT:(fun v w1 w'=>v 12=.pointer (some ⟨gp,0,none⟩) /\ Q1d w' (gp + 1) 115 2 Q5m (v 11) (qs ++ [(.slice X l.length Sq,⟨l,q⟩)]) /\ w1.grownBy w' vo.ownBlock) v w1 wl:=hT;intro bb hbb;intro K hK;obtain ⟨cG,Tg,Wy⟩:=hT;have Zq:=Xq.trans hx;obtain ⟨bp,cp,nj,_⟩:=Tg.shape;have o1:bb.eval (.tmp 28)=.pointer (some ⟨gp,0,none⟩):=fzg11
     have o2:bb.eval (.tmp 27)=v 11:=fzg11
     have mx:=Go.Tw.Q5f (ez.out.ext Zq) (kq.out.below Zq) (by omega) Wy
     exact Q3t _ _ rfl J5y (g:=gp) (k:=0) o1 o2 (by rw [nj]; rfl) (by rw [nj]; rfl) mx (by show 0 < 1; omega) (fun v'=>hK _ _ ⟨v 11,wl,Tg,Wy,rfl⟩)
    case post =>
     intro v w1 hx;(iterate 9 intro (zq:v _=_));intro (q9:(fun v w'=>v 9=.agg #[.slice X l.length Sq,.bool q]) v w1) (q10:(fun v w'=>∃ g,v 10=.slice (some ⟨g,0,none⟩) 1 1 /\ Blk w' g 115 (Q5m (.slice X l.length Sq,⟨l,q⟩)).toArray) v w1);intro w2 hE;replace hE:(fun v w1 w'=>∃ x wm,Q1d wm (gp + 1) 115 2 Q5m x (qs ++ [(.slice X l.length Sq,⟨l,q⟩)]) /\ w1.grownBy wm vo.ownBlock /\ w'=wm.setCell ⟨gp,0,none⟩ x) v w1 w2:=hE;simp only [Flow.acts,Act.put];go_simp;obtain ⟨x,wm,W9,fx,rfl⟩:=hE;have Zq:=Xq.trans hx;have Vy:=kq.out.below Zq;have Tk:=Go.Tw.Q5f (ez.out.ext Zq) Vy (by omega) fx
     have N3:=hid (W9.Q8n (p:=⟨gp,0,none⟩) (Nat.lt_succ_self gp) x);have m6:=hid (Tk.set 0 x);have TV:Ext wh wm:=Below.grown (Pj.out.trans Zq) fx (by have:=(Pj.out.trans Zq).size; omega) (fun j hj=>by have:=(Vy.lt j hj).1; have:=Gy.out; omega)
     have bj:=hid (TV.X0u (p:=⟨gp,0,none⟩) (by show wh.heap.size <= gp; rw [Gy.out]; exact Nat.le_refl _) x)
     have SV:=hid ((((T0.out.ext Zq).snoc (q:=(.slice X l.length Sq,⟨l,q⟩)) (W4.out.below Zq)).grown Vy (by decide) fx).set (k:=0) (u:=x) Tk (by decide))
     have RV:Hid (gp + 1 <= (wm.setCell ⟨gp,0,none⟩ x).heap.size):=hid (by have:=Tk.lt; simp; omega)
     obtain ⟨w6,V9⟩:∃ y,wm.setCell ⟨gp,0,none⟩ x=y:=⟨_,rfl⟩;rw [V9] at N3 m6 bj SV RV ⊢;clear TW SW hn V9 W9 fx Zq hx Tk TV Vy Xq q9 q10;(repeat clear zq);go_wp2;go_roundw
     case rel=>exact ⟨k + 1,x,qs ++ [(.slice X l.length Sq,⟨l,q⟩)],by omega,by go_num,by first | rw [qj.out,Dp.out] | rw [qj.out],m6.out,N3.out,by rw [List.map_append,Ey.out,UW.out]; rfl,SV.out,bj.out,RV.out⟩
     case measure=>simp [intOf]; omega
  . have zj:¬ (k:Int) < H:=by omega
    have rj:k=H:=by omega
    subst rj;have hp:(Q4f s n).take k=Q4f s n:=by rw [List.take_of_length_le (by rw [HP.out]; omega)]
    obtain ⟨Av,cv',rfl,-⟩:=Yq.shape;rw [xz] at Yq Zx;have Rz:=hid Yq;have Z2:=hid xz;have c0:wr.cell? ⟨gp,0,none⟩=_:=Zx.cell 0;simp only [Go.Tw.gA,Go.Tw.gB] at c0;have nz:=(K1.out.ext ui.out).ext Gq;have c1:wr.cell? ⟨gs + 1,0,none⟩=some (.slice none 0 0):=nz.cell 0;have f1:=nz.frozen 0;have vz:=hid nz;have hxa:Ext w wr:=(Rq.out.trans ui.out).trans Gq;have Lq:=hid hxa;rw [hp] at qx;have M7:=hid qx;clear Zx Yq qx Vw Gq nz hxa hp;go_wp2;refine bodyPost_ret (Q2e results36 rfl (vz.out.set 0 _) X7c Q9i) rfl ?_;refine ⟨_,rfl,⟨_,qs,rfl,?_,M7.out,T0.out.set vz.out (by decide)⟩,Lq.out.X0u (p:=⟨gs + 1,0,none⟩) (by show w.heap.size <= gs + 1; have:=rx.out; omega) _⟩
    have h:=Z2d (Rz.out.Q8n (p:=⟨gs + 1,0,none⟩) (by show gs + 1 < gp + 1; omega) (.slice Av k cv')) (show w.heap.size <= gp + 1 by have:=rx.out; omega)
    have he:=Z2.out;subst he;exact h
def J6y (s:Q0b) (c:Bool) (k:Nat) (qs:List (Value × Rul)):Prop:=qs.map (fun q=>q.2.classes)=s.hist /\ ∀ j (h:j < qs.length),j < k -> qs[j].2.close=c
theorem J6y.start {s:Q0b} {c:Bool} {qs:List (Value × Rul)} (h:qs.map (·.2)=Q4f s 0):J6y s c 0 qs:=by
 refine ⟨?_,fun j _ h=>absurd h (Nat.not_lt_zero _)⟩;have h1:qs.map (fun q=>q.2.classes)=(qs.map (·.2)).map Rul.classes:=by rw [List.map_map]; rfl
 rw [h1,h];unfold Q4f;rw [List.map_map]
 apply List.ext_getElem
 . simp
 . intro i h1 h2
   simp [h2]
theorem J6y.step {s:Q0b} {c:Bool} {k:Nat} {qs:List (Value × Rul)} (h:J6y s c k qs) (hk:k < qs.length):J6y s c (k + 1) (qs.set k (qs[k].1,⟨qs[k].2.classes,c⟩)):=by
 obtain ⟨h1,h2⟩:=h;refine ⟨?_,fun j hj qJ=>?_⟩
 . rw [<- h1,List.map_set]
   apply List.ext_getElem
   . simp
   . intro i g1 g2
     rw [List.getElem_set]
     split
     . rename_i e; subst e; simp
     . rfl
 . rw [List.getElem_set]
   split
   . rfl
   . exact h2 j (by simpa using hj) (by omega)
theorem J6y.all {s:Q0b} {c:Bool} {qs:List (Value × Rul)} (h:J6y s c qs.length qs):qs.map (·.2)=always s c:=by
 obtain ⟨h1,h2⟩:=h;unfold always;rw [<- h1,List.map_map];refine List.map_congr_left fun q hq=>?_;obtain ⟨j,hj,rfl⟩:=List.getElem_of_mem hq;have:=h2 j hj hj;show qs[j].2=⟨qs[j].2.classes,c⟩;rw [<- this]
theorem RuR.put {w:World} {qs:List (Value × Rul)} {k:Nat} {c:Bool} (h:RuR w qs) (hk:k < qs.length):RuR w (qs.set k (qs[k].1,⟨qs[k].2.classes,c⟩)):=by
 intro q hq
 rcases List.mem_or_eq_of_mem_set hq with hq | rfl
 . exact h q hq
 . exact (show Q0q w 0 3 (.int .i64) qs[k].1 qs[k].2.classes from h _ (List.getElem_mem hk))
theorem J6o {h:List (List Int)} {p:List Rul} (hl:p.length=h.length) (he:∀ j,j < h.length -> Q0m p j=h.getD j []):Q0x h p=0:=by
 rw [Q1n]
 apply List.ext_getElem
 . simpa using hl
 . intro i h1 h2
   have:=he i h2;unfold Q0m at this;rw [Q0u _ h2,Q0u _ (by omega)] at this
   simpa using this
theorem J5x {h:List (List Int)} {p:List Rul} {j:Nat} (hl:p.length=h.length) (hj:j < h.length) (hne:Q0m p j ≠ h.getD j []):Q0x h p=11:=by
 unfold Q0x;rw [if_neg (by simpa using hl),if_pos]
 intro he
 apply hne
 unfold Q0m;rw [Q0u _ hj,Q0u _ (show j < p.length by omega)]
 have:=congrArg (fun l=>l[j]?) he
 simpa [List.getElem?_eq_getElem hj,List.getElem?_eq_getElem (show j < p.length by omega)] using this
theorem J2l {h:List (List Int)} {p:List Rul} (hl:p.length ≠ h.length):Q0x h p=2:=by unfold Q0x; rw [if_pos hl]
theorem Y0r (w:World) (v u:Value) (s:Q0b) (p:List Rul) (hv:Q0i w v s) (hu:Q0l w u p) (he:s.err=0) :
    Calls prog 28 #[v,u] w fun e w'=>e=.returned (.int .i64 (Q0x s.hist p)) /\ Ext w w':=by
 have hS:=Q0r.of he;have s8:=Q7o hS;have Bd:=Y4f hS;have gG:=hid hS;have HV:=hid hv;have AJ:=hid he;obtain ⟨a,b,rfl,-⟩:=hv;have ha:∃ A n c,a=.slice A n c:=by obtain ⟨_,_,e,h2⟩:=HV.out; cases e; obtain ⟨A,c,e,-⟩:=h2.ships.opened; exact ⟨A,_,c,e⟩
 have hb:∃ A n c,b=.slice A n c:=by obtain ⟨_,_,e,h2⟩:=HV.out; cases e; obtain ⟨A,c,e,-⟩:=h2.members.opened; exact ⟨A,_,c,e⟩
 obtain ⟨A1,n1,ca1,rfl⟩:=ha;obtain ⟨A2,n2,ca2,rfl⟩:=hb;obtain ⟨R,rfl,hr⟩:=hu;obtain ⟨AR,cr,rfl,-,-,dx⟩:=hr.opened;have bw:=hid dx;obtain ⟨n,hn⟩:∃ n,p.length=n:=⟨_,rfl⟩;have HN:=hid hn;rw [hn] at bw ⊢;clear hS he hr dx hn;go_enter func28,ntmps28;go_wp2_with fail;obtain ⟨W,Mq,k0,k1,Rq,eW⟩:=Q4p w 25 #[.int .i64 s.limit,.slice A1 n1 ca1,.slice A2 n2 ca2] 47 #[.slice AR n cr];rw [Mq];clear Mq;have Ad:=hid (HV.out.ext Rq.out);obtain ⟨gs,Rj⟩:∃ x,w.heap.size=x:=⟨_,rfl⟩;rw [Rj] at k0 k1 eW ⊢;have K1:=hid k1;have c0:=k0.cell 0;have c1:=k0.cell 1;have c2:=k0.cell 2;simp only [Go.Tw.gA,Go.Tw.gB,Go.Tw.gC] at c0 c1 c2;clear k0 k1 Rj;go_wp2_with (go_at_call 44; refine (X1v _ _ s Ad.out AJ.out).mono ?_; rintro e wh ⟨xh,rfl,Bw,zJ⟩; refine halted ?_);have si:=Z8r gG.out Bw;obtain ⟨AH,ch,rfl,-,-,C6⟩:=si.opened;obtain ⟨H,hH⟩:∃ x,s.hist.length=x:=⟨_,rfl⟩;have HH:=hid hH;have NY:=hid C6;rw [hH] at s8 NY ⊢;have Lq:=hid (Rq.out.trans zJ);have vz:=hid (K1.out.ext zJ);have d0:wh.cell? ⟨gs + 1,0,none⟩=some (.slice AR n cr):=vz.out.cell 0;clear Bw si C6 hH Bd zJ c0 c1 c2;unfold Q1o
 by_cases WG:n=H
 . have hI:((n:Int) != (H:Int))=false:=by simp [WG]
   subst WG;go_wp2_with fail;clear d0
   go_loopw [6] (fun i wr=>∃ k:Nat,k <= n /\ i=.int .i64 k /\ (∀ j,j < k -> Q0m p j=s.hist.getD j []) /\ Ext wh wr) (fun i _=>n - (intOf i).toNat)
   case atStart=>exact ⟨0,Nat.zero_le _,rfl,fun j h=>absurd h (Nat.not_lt_zero _),Ext.refl _⟩
   case round =>
    obtain ⟨k,hk,rfl,L0,Ej⟩:=hrel;have Z5:=hid L0;have Jg:=hid Ej;have Gq:Ext w wr:=Lq.out.trans Ej;have Z7:=hid (vz.out.ext Ej)
    by_cases Uq:k < n
    . have zj:(k:Int) < n:=by omega
      obtain ⟨b1,o1,x,rfl,-,e0,-,Ww⟩:=bw.out k Uq;obtain ⟨b2,o2,y,rfl,-,f0,Fk⟩:=NY.out k Uq;replace e0:=Gq.cell e0;replace f0:=Ej.cell f0;have C5:=hid (fun (w1:World) (hx:Ext wr w1)=>Q2s w1 _ _ _ _ ((Ww.ext Gq).ext hx) ((Fk.ext Ej).ext hx));obtain ⟨X,Sq,rfl,-,-,-⟩:=Ww.opened;obtain ⟨Y,Jq,rfl,-,-,-⟩:=Fk.opened;obtain ⟨cp,J0⟩:∃ c,Q0m p k=c:=⟨_,rfl⟩;obtain ⟨cq,kg⟩:∃ c,s.hist.getD k []=c:=⟨_,rfl⟩;rw [J0,kg] at C5;rw [J0] at e0;rw [kg] at f0;have j6:=hid J0;have DX:=hid kg;have Nz:=hid e0;have VJ:=hid f0;obtain ⟨q,hq⟩:∃ d,decide (cp=cq)=d:=⟨_,rfl⟩;have HQ:=hid hq;rw [hq] at C5;have Xq:=(Ext.refl wr).drew;clear L0 Ej Gq Ww Fk J0 kg e0 f0 hq;obtain ⟨wq,rfl⟩:∃ Z,Z=wr:=⟨_,rfl⟩;go_wp2_with fail;refine Flow.Q1h [.p,.w,.p,.p,.p,.w,.p,.p,.p,.w,.w,.p] [0,1,2,3,4,5,6,7,8,9,10,11] [[],[0],[],[1,2],[3],[4],[],[],[6,7],[8],[5,9],[10]]
       [.c 0 (.pointer (some ⟨gs + 1,0,none⟩)),.c 1 (.slice (some ⟨b1,o1,none⟩) n cr),.c 2 (.int .i64 (k:Int)),.c 3 (.pointer (some ⟨b1,o1 + k * 2,none⟩)),.c 4 (.pointer (some ⟨b1,o1 + k * 2,none⟩)),.c 5 (.slice X cp.length Sq),.c 6 (.slice (some ⟨b2,o2,none⟩) n ch),.c 7 (.int .i64 (k:Int)),.c 8 (.pointer (some ⟨b2,o2 + k,none⟩)),.c 9 (.slice Y cq.length Jq),.c 10 (.bool q),.c 11 (.bool (!q))]
       (by kernel_rfl) rfl (by kernel_rfl) ⟨?g0,?g1,?g2,?g3,?g4,?g5,?g6,?g7,?g8,?g9,?g10,?g11,trivial⟩ ?post
      case g0 | g2 | g6 | g7=>
       intro v w1 hx;intro bb hbb;subst hbb;refine ⟨_,fun w=>?_,rfl⟩;go_simp
      case g1=>
       intro v w1 hx;(repeat intro (zq:v _=_));intro bb hbb;subst hbb;have n0:w1.cell? ⟨gs + 1,0,none⟩=some (.slice (some ⟨b1,o1,none⟩) n cr):=(Z7.out.ext (Xq.trans hx)).cell 0;intro K hK;go_simp;exact hK _ _ (Ext.refl _) rfl
      case g3 | g4 | g8 | g11=>
       intro v w1 hx;(repeat intro (zq:v _=_));intro bb hbb;subst hbb;refine ⟨_,fun w=>?_,rfl⟩;go_simp
      case g5=>
       intro v w1 hx;(repeat intro (zq:v _=_));intro bb hbb;subst hbb;have n0:=(Xq.trans hx).cell Nz.out;intro K hK;go_simp;exact hK _ _ (Ext.refl _) rfl
      case g9=>
       intro v w1 hx;(repeat intro (zq:v _=_));intro bb hbb;subst hbb;have n0:=(Xq.trans hx).cell VJ.out;intro K hK;go_simp;exact hK _ _ (Ext.refl _) rfl
      case g10=>
       intro v w1 hx;(repeat intro (zq:v _=_));intro bb hbb;subst hbb;intro K hK;go_simp;refine Q0e (C5.out w1 (Xq.trans hx)) ?_;rintro e w2 ⟨rfl,Nq⟩;exact ⟨_,rfl,hK _ _ Nq rfl⟩
      case post =>
       intro v w1 hx;(iterate 12 intro (zq:v _=_));simp only [Flow.All,Flow.acts,Act.put];go_simp;have bj:=hid (Jg.out.trans (Xq.trans hx));clear hx Xq;(repeat clear zq);cases q with
       | false =>
         have hne:Q0x s.hist p=11:=J5x (by rw [HN.out,HH.out]) (by rw [HH.out]; exact Uq) (by rw [j6.out,DX.out]; exact of_decide_eq_false HQ.out)
         have HR:=hid hne;clear hne;go_wp2;go_ret;exact ⟨by rw [HR.out] <;> rfl,Lq.out.trans bj.out⟩
       | true =>
         have lj:Q0m p k=s.hist.getD k []:=by rw [j6.out,DX.out]; exact of_decide_eq_true HQ.out
         have Kk:=hid lj;clear lj;go_wp2;go_roundw
         case rel=>exact ⟨k + 1,by omega,by go_num,(fun j hj=>by
          rcases Nat.lt_or_ge j k with h | h
          . exact Z5.out j h
          . have e:j=k:=by omega
            subst e; exact Kk.out),bj.out⟩
         case measure=>simp [intOf]; omega
    . have zj:¬ (k:Int) < n:=by omega
      have rj:k=n:=by omega
      have Nw:Q0x s.hist p=0:=J6o (by rw [HN.out,HH.out]) (by rw [HH.out,<- rj]; exact L0)
      have HR:=hid Nw;clear L0 Nw;go_wp2;go_ret;exact ⟨by rw [HR.out] <;> rfl,Gq⟩
 . have hI:((n:Int) != (H:Int))=true:=by simp; omega
   have HR:Hid (Q0x s.hist p=2):=hid (J2l (by rw [HN.out,HH.out]; exact WG))
   clear WG;go_wp2;go_ret;exact ⟨by rw [HR.out] <;> rfl,Lq.out⟩
theorem J4j.policy {s:Q0b} (hS:Q0r s) {n:Nat} {w w':World} {x:Value} (h:J4j 115 w w' x (Q4f s n)):Q0l w' x (Q4f s n):=by
 refine h.is (by have:=Q7o hS; rw [X3r]; omega) fun r hr=>?_
 unfold Q4f at hr;obtain ⟨i,hi,rfl⟩:=List.mem_map.1 hr;have Bg:=List.mem_range.1 hi;have:=Q6i hS _ (List.getElem_mem Bg);show (s.hist.getD i []).length <= 4096;rw [Q0u _ Bg]; omega
theorem X8n (s:Q0b) (n:Nat):Q0x s.hist (Q4f s n)=0:=by
 rw [Q1n];unfold Q4f;rw [List.map_map]
 apply List.ext_getElem
 . simp
 . intro i h1 h2
   simp [h2]
structure K1a (s:Q0b) (need:Int) (F b c d:Int) (x:Option Plan):Prop where
 f:Z4o s need=F
 x:Y5r s need=x
end Go.Proofs
namespace Go.Proofs
open Go.Tw Go.RowKit
theorem _root_.Go.RowKit.Below.ext {a b c:World} (h:Below a.heap.size a b) (k:Ext b c):Below a.heap.size a c:=(show Ext a b from h).trans k
structure K0w (s:Q0b) (need m n1 d1 n2 d2 e3:Int):Prop where
 two:(e3=24 /\ ¬ need <= m) ∨ (e3=0 /\ need <= m /\ (n2 < n1 ∨ n2=n1 /\ d2 <= d1))
 best:∀ p,need <= Q1t s (Q1w s p) -> e3=0 /\ (n2 < Q2u s p ∨ n2=Q2u s p /\ d2 <= Q6q s p)
theorem X1x {s:Q0b} {p:List Rul} (he:s.err=0) (hp:Q0x s.hist p=0):Q1k s p=0:=by unfold Q1k; rw [if_neg (fun h=>h he)]; exact hp
theorem X0n {s:Q0b} (hv:Q0r s) {p:List Rul} (hp:Q0x s.hist p=0):p.length <= 1000:=by
 have h:=congrArg List.length (Q1n.1 hp);rw [List.length_map] at h;have:=Q7o hv;omega
theorem J3v {s:Q0b} (hv:Q0r s) {p:List Rul} (hp:Q0x s.hist p=0):∀ k,k < p.length -> (Q0m p k).length <= 8:=fun k hk=>by
 have h:=Q1n.1 hp;have hm:p[k].classes ∈ s.hist:=by rw [<- h]; exact List.mem_map_of_mem (List.getElem_mem hk)
 have:=Q6i hv _ hm;unfold Q0m;rw [Q0u _ hk];omega
theorem J2g (w:World) (v u:Value) (s:Q0b) (p:List Rul) (hv:Q0i w v s) (hu:Q0l w u p) (hs:Q2r s) (he:s.err=0) (hp:Q0x s.hist p=0) :
    Calls Tryz.prog 33 #[v,u] w fun e w'=>∃ x,e=.returned (.tuple #[x,.int .i64 0]) /\ Q0g w' x (Q1w s p) /\ Ext w w':=by
 have h:=X3z w v u s p hv hu hs (X0n (Q0r.of he) hp);rw [X1x he hp,show Z1p s p=Q1w s p from if_pos (X1x he hp)] at h
 exact h
theorem Y8z (w:World) (v u:Value) (s:Q0b) (p:List Rul) (hv:Q0i w v s) (hu:Q0l w u p) (hs:Q2r s) (he:s.err=0) (hp:Q0x s.hist p=0) :
    Calls Tryz.prog 37 #[v,u] w fun e w'=>e=.returned (.tuple #[.int .i64 (Q2u s p),.int .i64 0]) /\ Ext w w':=by
 have h:=X4g w v u s p hv hu hs (X0n (Q0r.of he) hp);rw [X1x he hp,show X0h s p=Q2u s p from if_pos (X1x he hp)] at h
 exact h
theorem Z7s (w:World) (v u:Value) (s:Q0b) (p:List Rul) (hv:Q0i w v s) (hu:Q0l w u p) (hs:Q2r s) (he:s.err=0) (hp:Q0x s.hist p=0) :
    Calls Tryz.prog 38 #[v,u] w fun e w'=>e=.returned (.tuple #[.int .i64 (Q6q s p),.int .i64 0]) /\ Ext w w':=by
 have h:=Y3s w v u s p hv hu hs (X0n (Q0r.of he) hp);rw [X1x he hp,show Y9e s p=Q6q s p from if_pos (X1x he hp)] at h
 exact h
theorem Z7e {s:Q0b} (hv:Q0r s) (n:Nat):∀ k,k < (Q4f s n).length -> (Q0m (Q4f s n) k).length <= 4096:=fun k hk=>by
 have:=J3v hv (X8n s n) k hk;omega
end Go.Proofs
namespace Go.Proofs
open Go.RowKit Go.Tw Go.Flow Tryz
attribute [local go_sem] Oper.semAt_some
def J5h (w:World) (x:Value) (o:Option (List Bool)):Prop:=match o with
 | none=>x=.slice none 0 0
 | some b=>Q1v w x b
theorem J5h.ext {w w':World} {x:Value} {o:Option (List Bool)} (h:J5h w x o) (hx:Ext w w'):J5h w' x o:=by
 cases o with
 | none=>exact h
 | some b=>exact Q1v.ext h hx
theorem Q3k {w:World} {o:Oper} {a:Act} (x:Operand) (k:Nat) (Ow:o.op=.extract x k) {u r:Value} (h:a.eval x=u) (hr:∀ w,(Instr.extract u k).run prog w=.ok r w):(execOp a.eval o).run prog w=.ok (.value r) w:=by
 unfold execOp;simp only [Ow,h,Sem.run_bind,hr,Result.andThen_ok,Sem.run_pure]
theorem Q9y {w:World} {o:Oper} {a:Act} (x:Operand) (Ow:o.op=.move x) {u:Value} (h:a.eval x=u):(execOp a.eval o).run prog w=.ok (.value u) w:=by
 unfold execOp;simp only [Ow,h,Sem.run_pure]
theorem Y0z {w:World} {o:Oper} {a:Act} (x:Operand) (Ow:o.op=.assign x) {u:Value} (h:a.eval x=u):(execOp a.eval o).run prog w=.ok (.value u) w:=by
 unfold execOp;simp only [Ow,h,Sem.run_pure]
theorem Z9a (w:World) (x y:Value):(Instr.extract (.tuple #[x,y]) 0).run prog w=.ok x w:=rfl
theorem J0t (w:World) (x y:Value):(Instr.extract (.tuple #[x,y]) 1).run prog w=.ok y w:=rfl
def Q6a (s:Q0b) (n:Int) (l:List Bool):Int:=Q0o [s.err,Q0s (Q7f s n) 10,Q0s (!decide (l.length=s.ships.length)) 2]
def X9u (s:Q0b) (n:Int) (l:List Bool):List Int:=if Q6a s n l=0 then (Q1g s n.toNat).Q2a l else []
theorem Y7b {s:Q0b} {n:Int} {l:List Bool} (h:Q6a s n l=0):Q5r s n=0 /\ l.length=s.ships.length:=by
 unfold Q6a at h;unfold Q5r;rw [Q0p] at h
 by_cases he:s.err=0
 . rw [if_pos he,Q0p] at h
   by_cases hm:Q0s (Q7f s n) 10=0
   . rw [if_pos hm,Q0p] at h
     by_cases hl:l.length=s.ships.length
     . refine ⟨?_,hl⟩
       rw [Q0p,if_pos he,Q0p,if_pos hm]; rfl
     . have hw:Q0s (!decide (l.length=s.ships.length)) 2=2:=by simp [Q0s,hl]
       rw [hw] at h; exact absurd h (by decide)
   . rw [if_neg hm] at h; exact absurd h hm
 . rw [if_neg he] at h; exact absurd h he
theorem Z2b (w:World) (v u:Value) (s:Q0b) (n:Int) (l:List Bool) (hv:Q0i w v s) (hu:Q1v w u l) (hs:Q2r s) :
    Calls prog 49 #[v,.int .i64 n,u] w fun e w'=>∃ x,e=.returned (.tuple #[x,.int .i64 (Q6a s n l)]) /\ Q0g w' x (X9u s n l) /\ Ext w w':=by
 obtain ⟨a,b,rfl,h2⟩:=hv;obtain ⟨A,Tq,rfl,-,-,-⟩:=h2.ships.opened;obtain ⟨B,Vq,rfl,-,-,-⟩:=h2.members.opened;have HU:=hid hu;obtain ⟨U,py,rfl,-,-,-⟩:=hu.opened;have H2:=hid h2;have HS:=hid hs;clear h2 hs hu;obtain ⟨L,hL⟩:∃ L,l.length=L:=⟨_,rfl⟩;have HL:=hid hL;obtain ⟨T,hT⟩:∃ L,s.ships.length=L:=⟨_,rfl⟩;have HT:=hid hT;obtain ⟨z,hz⟩:∃ z,(!decide (l.length=s.ships.length))=z:=⟨_,rfl⟩;have HZ:Hid (((L:Int) != (T:Int))=z):=hid (by
  rw [<- hz,hL,hT]
  by_cases h:L=T
  . simp [h]
  . simp [h]; omega)
 have Mw:Hid (∀ (W:World) (u:Value),Q0g W u [s.err,Q0s (Q7f s n) 10,Q0s z 2] -> Calls prog 96 #[u] W fun e W'=>e=.returned (.int .i64 (Q6a s n l)) /\ W=W'):=hid (fun W u h=>by
  have:=first_any W u _ h;rw [<- hz] at this; exact this)
 rw [hL,hT];clear hL hT hz;go_enter func49,ntmps49;go_wp2_with fail;obtain ⟨W,Mq,k0,Rq,eW⟩:=Q2q w 34 #[.int .i64 s.limit,.slice A T Tq,.slice B s.members.length Vq];rw [Mq];clear Mq;obtain ⟨gs,Rj⟩:∃ x,w.heap.size=x:=⟨_,rfl⟩;rw [Rj] at k0 ⊢;have K0:=hid k0;clear k0 Rj eW;have Xq:=(Ext.refl W).drew;have Pz:Hid (∀ W',Ext W W' -> Q0i W' (.agg #[.int .i64 s.limit,.slice A T Tq,.slice B s.members.length Vq]) s):=hid (fun W' hW=>⟨_,_,rfl,by rw [<- HT.out]; exact H2.out.ext (Rq.out.trans hW)⟩)
 refine Flow.Q1h [.w,.w,.w,.p,.w,.p,.p,.p,.w,.p,.p,.w,.w,.w,.p] [0,1,2,3,4,5,6,7,8,9,10,11,12,13,14] [[],[0],[],[],[1,2,3],[],[5],[],[7],[8],[6,9],[4,10],[1,4,11],[11,12],[0,1,2,3,4,5,6,7,8,9,10,11,12,13]]
  [.c 0 (.agg #[.int .i64 s.limit,.slice A T Tq,.slice B s.members.length Vq]),.c 1 (.int .i64 s.err),.c 2 (.agg #[.int .i64 s.limit,.slice A T Tq,.slice B s.members.length Vq]),.c 3 (.int .i64 n),.c 4 (.int .i64 (Q0s (Q7f s n) 10)),.c 5 (.slice U L py),.c 6 (.int .i64 ((L:Nat):Int)),.c 7 (.pointer (some ⟨gs,1,none⟩)),.c 8 (.slice A T Tq),.c 9 (.int .i64 ((T:Nat):Int)),.c 10 (.bool z),.c 11 (.int .i64 (Q0s z 2)),⟨fun v wz=>(fun v w'=>Q0g w' (v 12) [s.err,Q0s (Q7f s n) 10,Q0s z 2]) v wz,by intro v a b hx h; exact Q0g.ext h hx⟩,.c 13 (.int .i64 (Q6a s n l)),.c 14 (.int .i64 (Q6a s n l))]
  (by kernel_rfl) rfl (by kernel_rfl) ⟨?g0,?g1,?g2,?g3,?g4,?g5,?g6,?g7,?g8,?g9,?g10,?g11,?g12,?g13,?g14,trivial⟩ ?post
 case g0 | g2=>
  intro v w1 hx;intro bb hbb;intro K hK;have o1:bb.eval (.tmp 3)=.pointer (some ⟨gs,0,none⟩):=by rw [hbb]; dsimp only; (try simp (discharger:=decide) only [eval_put_ne]); rfl
  exact Q0k (.tmp 3) _ rfl X7u Q8v o1 (K0.out.ext (Xq.trans hx)) rfl (hK _ _ (Ext.refl _) rfl)
 case g1=>
  intro v w1 hx;(repeat intro (zq:v _=_));intro bb hbb;subst hbb;intro K hK;go_simp;refine Q0e (Q2k w1 _ s (Pz.out w1 (Xq.trans hx)) HS.out) ?_;rintro e w2 ⟨rfl,Nq⟩;exact ⟨_,rfl,hK _ _ Nq rfl⟩
 case g3 | g5 | g7=>
  intro v w1 hx;intro bb hbb;subst hbb;refine ⟨_,fun w=>?_,rfl⟩;go_simp
 case g4=>
  intro v w1 hx;(repeat intro (zq:v _=_));intro bb hbb;subst hbb;intro K hK;go_simp;refine Q0e (Q4h w1 _ s n (Pz.out w1 (Xq.trans hx))) ?_;rintro e w2 ⟨rfl,Nq⟩;exact ⟨_,rfl,hK _ _ Nq rfl⟩
 case g6 | g9=>
  intro v w1 hx;(repeat intro (zq:v _=_));intro bb hbb;subst hbb;refine ⟨_,fun w=>?_,rfl⟩;go_simp
 case g8=>
  intro v w1 hx;(repeat intro (zq:v _=_));intro bb hbb;subst hbb;have n0:w1.cell? ⟨gs,1,none⟩=some (.slice A T Tq):=(K0.out.ext (Xq.trans hx)).cell 1;intro K hK;go_simp;exact hK _ _ (Ext.refl _) rfl
 case g10=>
  intro v w1 hx;(repeat intro (zq:v _=_));intro bb hbb;subst hbb;refine ⟨.bool z,fun w=>?_,rfl⟩;go_simp;exact HZ.out
 case g11=>
  intro v w1 hx;(repeat intro (zq:v _=_));intro bb hbb;subst hbb;intro K hK;go_simp;refine Q0e (Q4u w1 z 2) ?_;rintro e w2 ⟨rfl,rfl⟩;exact ⟨_,rfl,hK _ _ (Ext.refl _) rfl⟩
 case g12=>
  intro v w1 hx;(repeat intro (zq:v _=_));intro bb hbb;subst hbb;intro K hK;go_simp;exact hK _ _ (Ext.box _ _) (Q3d (l:=[s.err,Q0s (Q7f s n) 10,Q0s z 2]) (by simp))
 case g13=>
  intro v w1 hx (q11:v 11=_) (q12:(fun v w'=>Q0g w' (v 12) [s.err,Q0s (Q7f s n) 10,Q0s z 2]) v w1);intro bb hbb;subst hbb;intro K hK;go_simp;refine Q0e (Mw.out w1 _ q12) ?_;rintro e w2 ⟨rfl,rfl⟩;exact ⟨_,rfl,hK _ _ (Ext.refl _) rfl⟩
 case g14=>
  intro v w1 hx (q0:v 0=_) (q1:v 1=_) (q2:v 2=_) (q3:v 3=_) (q4:v 4=_) (q5:v 5=_) (q6:v 6=_) (q7:v 7=_) (q8:v 8=_) (q9:v 9=_) (q10:v 10=_) (q11:v 11=_) _ (q13:v 13=_);intro bb hbb;subst hbb;refine ⟨_,fun w=>?_,rfl⟩;go_simp
 case post =>
  intro v w1 hx;(iterate 12 intro (zq:v _=_));intro (q12:(fun v w'=>Q0g w' (v 12) [s.err,Q0s (Q7f s n) 10,Q0s z 2]) v w1);(iterate 2 intro (zq:v _=_));simp only [Flow.All,Flow.acts,Act.put];go_simp;have vq:=hid (Rq.out.trans (Xq.trans hx));have b4:=hid (K0.out.ext (Xq.trans hx));obtain ⟨w5,rfl⟩:∃ X,X=w1:=⟨_,rfl⟩;obtain ⟨y5,KV⟩:∃ z,v 12=z:=⟨_,rfl⟩;rw [KV];clear hx Xq KV q12;(repeat clear zq)
  by_cases he:Q6a s n l=0
  . obtain ⟨hsm,Dq⟩:=Y7b he
    obtain ⟨Xw,Q5,Ty⟩:=X5j hsm;have hne:(Q6a s n l != 0)=false:=by simp [he]
    obtain ⟨i,rfl⟩:∃ i:Nat,n=(i:Int):=⟨n.toNat,by omega⟩
    have kz:i < s.members.length:=by omega
    have y8:Hid (X9u s (i:Int) l=(Q1g s i).Q2a l):=hid (by unfold X9u; rw [if_pos he,Int.toNat_natCast])
    have HE0':=hid he;obtain ⟨E,hE⟩:∃ E,Q6a s (i:Int) l=E:=⟨_,rfl⟩;have J7:=hid hE;rw [hE] at hne ⊢;obtain ⟨bm,off,Sq,Jq,Cq,X,Y,Z,rq⟩:=Q3e (H2.out.members.ext vq.out) kz;have hA:=rq.addr;subst hA;have e0:=rq.e0;have e1:=rq.e1;have e2:=rq.e2;have e3:=rq.e3;have e4:=rq.e4;have nY:=Xw.tides;have Jj:=hid (X0o w5 _ _ (Q1g s i) l (rq.mem (Ext.refl _)) (HU.out.ext vq.out) (by omega) (X1t Xw kz (by omega)))
    rw [HL.out] at Jj;have c2:w5.cell? ⟨gs,2,none⟩=some (.slice (some ⟨bm,off,none⟩) s.members.length Vq):=b4.out.cell 2;have V0:(i:Int) < s.members.length:=by omega
    obtain ⟨nm,Aj⟩:∃ x,Q1s s.members i=x:=⟨_,rfl⟩;obtain ⟨wt,lq⟩:∃ x,Q0n s.members i=x:=⟨_,rfl⟩;obtain ⟨lc,vj⟩:∃ x,(Q0c s.members i).length=x:=⟨_,rfl⟩;obtain ⟨lo,Sx⟩:∃ x,(Q1c s.members i).length=x:=⟨_,rfl⟩;obtain ⟨li,mj⟩:∃ x,(Q1f s.members i).length=x:=⟨_,rfl⟩;rw [Aj] at e0 Jj;rw [lq] at e1 Jj;rw [vj] at e2 Jj;rw [Sx] at e3 Jj;rw [mj] at e4 Jj;clear he hE Xw Q5 Ty rq Aj lq vj Sx mj hsm kz nY;go_wp2_with (go_at_call 127; refine Jj.out.mono ?_; rintro e w6 ⟨x,rfl,h1,Mj⟩);refine bodyPost_ret (results_tmp2 results49 _ _ _) rfl ?_;exact ⟨_,by rw [<- J7.out,HE0'.out]; rfl,by rw [y8.out]; exact h1,vq.out.trans Mj⟩
  . have y8:Hid (X9u s n l=[]):=hid (if_neg he)
    have hne:(Q6a s n l != 0)=true:=by simp [he]
    clear he;go_wp2;refine bodyPost_ret (results_tmp2 results49 _ _ _) rfl ?_;exact ⟨_,rfl,by rw [y8.out]; exact Go.Tw.Rows.nil _ _ _,vq.out⟩
end Go.Proofs
namespace Go.Proofs
open Go.RowKit Go.Tw Go.Flow
theorem X4x {α:Type} {P:Program} {K:Value -> World -> Prop} {o:Oper} {a:Act} {w:World} (s x:Operand) (t:TypeId) (ho:o.op=.call { callee:=.builtin .append,args:=#[s,x],argTypes:=#[t,t] })
    (base:Nat) (e:TypeId) (i:TypeInfo) (z:Value) (k bytes:Nat) (ht:P.underlying t=some (.slice e)) (hi:P.info? e=some i) (hz:i.zero=some z) (yx:i.size=k) (Cg:i.bytes=bytes) (Dw:z.cells.size=k) (Ak:0 < k)
    (enc:α -> List Value) (hk:∀ x,(enc x).length=k) (v:Value) (ys:List α) (hs:a.eval s=v) (hv:∃ g,v=.slice (some ⟨g,0,none⟩) 0 0 /\ base <= g /\ w.heap[g]?=some (.cells #[] e (0,0))) (A:Option Addr) (c:Nat) (hx:a.eval x=.slice A ys.length c)
    (hA:0 < ys.length -> ∃ ad,A=some ad /\ ∀ j u,(ys.flatMap enc)[j]?=some u -> w.cell? (ad.add j)=some u) (h1:∀ u ∈ ys.flatMap enc,u.oneCell'=true)
    (o0:ys.length <= 100000) (hb:bytes <= 1000) (Sz:base <= w.heap.size)
    (h:∀ v' w',Q1d w' base e k enc v' ys -> Ext w w' -> K v' w'):gives P K ((execOp a.eval o).run P w):=by
 obtain ⟨g,rfl,Ux,hg⟩:=hv;have Yq:Q1d w base e k enc (.slice (some ⟨g,0,none⟩) 0 0) ([]:List α):=⟨by simp,.inr ⟨g,0,#[],rfl,Ux,hg,Nat.le_refl _,Nat.zero_le _,by simp,by simp⟩⟩
 cases ys with
 | nil =>
   unfold execOp;simp only [ho,resolve,invoke,builtin,Sem.run_bind,Sem.run_pure,Result.andThen_ok,List.map_toArray,List.map_cons,List.map_nil,hs,hx];rw [List.length_nil,Q5n (P:=P) w t o.type e i ht hi _ A 0 0 c (Nat.le_refl _)];exact h _ _ Yq (Ext.refl _)
 | cons y ys =>
   obtain ⟨ad,rfl,Xj⟩:=hA (by simp)
   have rz:(y :: ys).length * bytes <= 140737488355328:=by
    have:(y :: ys).length * bytes <= 100000 * 1000:=Nat.mul_le_mul o0 hb;omega
   obtain ⟨v',w',hr,h2,h3,h4⟩:=run_append_own (P:=P) w base t o.type e i z k bytes ht hi hz yx Cg Dw Ak _ 0 (([]:List α).flatMap enc) Yq ad (y :: ys).length c ((y :: ys).flatMap enc) (Q4c hk _) Xj h1 (by unfold maxLen; omega) (by rw [Nat.zero_add]; exact rz) Sz
   have Qw:=run_append_grow (P:=P) w t o.type e i z ht hi hz ⟨g,0,none⟩ 0 0 [] (by simp) (by simp) ad (y :: ys).length c ((y :: ys).flatMap enc) (by rw [yx]; exact Q4c hk _) Xj (by simp) (by simp only [List.length_cons] at o0 ⊢; omega) (by rw [Cg]; exact growslice_fits (by simp) (by rw [Nat.zero_add]; exact rz))
   rw [hr] at Qw;injection Qw with ai NG;unfold execOp;simp only [ho,resolve,invoke,builtin,Sem.run_bind,Sem.run_pure,Result.andThen_ok,List.map_toArray,List.map_cons,List.map_nil,hs,hx,hr];refine h v' w' ?_ (by rw [NG]; exact ((Ext.refl w).drew).alloc _)
   unfold Q1d
   simpa using h2
theorem Z9b {w:World} {A:Option Addr} {n cp:Nat} {l:List Rul} (h:Q1j w (.slice A n cp) l):∃ qs:List (Value × Rul),qs.map (·.2)=l /\ (∀ q ∈ qs,Q0g w q.1 q.2.classes) /\ (0 < qs.length -> ∃ ad,A=some ad /\ ∀ j z,(qs.flatMap Q5m)[j]?=some z -> w.cell? (ad.add j)=some z):=by
 obtain ⟨c,⟨A',cap',hv,_,_,hc⟩,h2⟩:=h;cases hv;refine ⟨(List.range l.length).map fun k=>(c (k * 2 + 0),l.getD k default),?_,?_,fun h0=>?_⟩
 . apply List.ext_getElem
   . simp
   . intro i h3 h4
     simp [h4]
 . intro q hq
   obtain ⟨k,hk,rfl⟩:=List.mem_map.1 hq;have hk:=List.mem_range.1 hk;have e:l.getD k default=l[k]:=by simp [hk]
   show Q0g w (c (k * 2 + 0)) (l.getD k default).classes;rw [e];exact (h2 k hk).1
 . have JQ:0 < l.length:=by simpa using h0
   obtain ⟨b,off,hA,-⟩:=hc 0 (by omega)
   refine ⟨_,hA,fun j z hj=>?_⟩;have Dq:((List.range l.length).map fun k=>(c (k * 2 + 0),l.getD k default)).length=l.length:=by simp
   have Qj:j < (((List.range l.length).map fun k=>(c (k * 2 + 0),l.getD k default)).flatMap Q5m).length:=(List.getElem?_eq_some_iff.1 hj).1;rw [Q4c Q4b,Dq] at Qj;obtain ⟨b',off',aj,Wq⟩:=hc j (by omega)
   rw [hA] at aj;cases aj;rw [addr_add,Wq];have e:j=j / 2 * 2 + j % 2:=by omega
   have hk:j / 2 < l.length:=by omega
   rw [e,flat_get Q4b _ (j / 2) (j % 2) (by rw [Dq]; exact hk) (by omega)] at hj
   have hr:=h2 (j / 2) hk;simp only [List.getElem_map,List.getElem_range] at hj
   rcases Nat.mod_two_eq_zero_or_one j with hm | hm
   . rw [hm] at hj e
     rw [e]
     simpa [Q5m] using hj
   . rw [hm] at hj e
     have O2:c (j / 2 * 2 + 1)=.bool l[j / 2].close:=hr.2;rw [e,O2];have e2:l.getD (j / 2) default=l[j / 2]:=by simp [hk]
     rw [e2] at hj
     simpa [Q5m] using hj
end Go.Proofs
