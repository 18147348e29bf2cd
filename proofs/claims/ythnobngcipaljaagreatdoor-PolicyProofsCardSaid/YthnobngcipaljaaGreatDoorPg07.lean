/- Part of a proof. -/
import Derived.Test.YthnobngcipaljaaGreatDoorPg06
import Derived.Maps.AppendAt
set_option maxRecDepth 1000000
set_option maxHeartbeats 64000000
set_option linter.unusedVariables false
set_option linter.unusedSimpArgs false
set_option linter.constructorNameAsVariable false
open Go.Lib (hid)
namespace Go.Proofs
open Go.RowKit Go.Tw Go.Flow Tryz
attribute [local go_sem] Oper.semAt_some
theorem fzb07 {a b:Nat} (h:a < b:=by rw [hbb]; simp only [Flow.size_put]; show _ < 131; decide):a < b:=h
theorem fzc07 {u:Type} {a b:u} (h:a=b:=by rw [hbb]; dsimp only; (try simp (discharger:=decide) only [Flow.eval_put_ne]); rw [Flow.Q0a (by simp only [Flow.size_put]; show _ < 131; decide)]; assumption):a=b:=h
theorem J4d {F:Array Value} (h:F.size=131):∃ u:Nat -> Value,F=#[u 0,u 1,u 2,u 3,u 4,u 5,u 6,u 7,u 8,u 9,u 10,u 11,u 12,u 13,u 14,u 15,u 16,u 17,u 18,u 19,u 20,u 21,u 22,u 23,u 24,u 25,u 26,u 27,u 28,u 29,u 30,u 31,u 32,u 33,u 34,u 35,u 36,u 37,u 38,u 39,u 40,u 41,u 42,u 43,u 44,u 45,u 46,u 47,u 48,u 49,u 50,u 51,u 52,u 53,u 54,u 55,u 56,u 57,u 58,u 59,u 60,u 61,u 62,u 63,u 64,u 65,u 66,u 67,u 68,u 69,u 70,u 71,u 72,u 73,u 74,u 75,u 76,u 77,u 78,u 79,u 80,u 81,u 82,u 83,u 84,u 85,u 86,u 87,u 88,u 89,u 90,u 91,u 92,u 93,u 94,u 95,u 96,u 97,u 98,u 99,u 100,u 101,u 102,u 103,u 104,u 105,u 106,u 107,u 108,u 109,u 110,u 111,u 112,u 113,u 114,u 115,u 116,u 117,u 118,u 119,u 120,u 121,u 122,u 123,u 124,u 125,u 126,u 127,u 128,u 129,u 130]:=by
 refine ⟨fun i=>F.getD i undef,?_⟩;have e:F=((List.range 131).map fun i=>F.getD i undef).toArray:=by
  apply Array.ext
  . simp [h]
  . intro i h1 h2
    simp [h1]
 exact e.trans (by kernel_rfl)
theorem Z8f {w:World} {B:Nat} {v:Value} {qs:List (Value × Grp)} (h:Q1b w B 153 2 Q5m v qs) (hl:qs.length <= 8) (hr:∀ q ∈ qs,Q0e w q.1 q.2.members):Q1q w v (qs.map (·.2)):=by
 refine Q1b.rowsOf h (by simp) (by rw [List.length_map]; omega) Q4m (fun j h1 h2=>?_) (fun c c' x hc h=>?_)
 . have:=hr qs[j] (List.getElem_mem h1)
   simp only [List.getElem_map];exact ⟨this,rfl⟩
 . obtain ⟨h1,h2⟩:=h
   exact ⟨by rw [<- hc 0 (by omega)]; exact h1,by rw [<- hc 1 (by omega)]; exact h2⟩
theorem Tryz.J4v (w:World):(sizeOf 3).run prog w=.ok 1 w:=by kernel_rfl
theorem J1u {s:Q0b} {m:Nat} {cl:List Bool} (W:World) (v u:Value) (hv:Q0g W v s) (hu:Q1f W u cl) (hS:Q0w s) (hm:m < s.members.length) (hl:cl.length=s.ships.length) :
    Calls prog 51 #[v,.int .i64 (m:Int),u] W fun e w'=>∃ x,e=.returned x /\ Q0e w' x ((Q2a s m).Q7b cl) /\ Ext W w':=by
 have h6:=hS.tides.2;have Aj:=hS.shaped m hm;exact Y1x W v u s m cl hv hm hu (by omega) (by rw [hl]; exact Nat.le_of_eq Aj.2.1.symm) (by rw [hl]; exact Nat.le_of_eq Aj.2.2.symm) (hS.inflow m hm)
theorem J3z {w z0:World} {s:Q0b} {A B:Option Addr} {T M Uq Wq gs MB O n Qq:Nat} {lim:Int} {G:List (List Nat)} {vs:Nat -> Value} (Lq:Hid (Ext w z0)) (H2:Hid (Q2t w (.slice A T Uq) (.slice B M Wq) s)) (KB:Hid (Blk z0 gs 25 #[.int .i64 lim,.slice A T Uq,.slice B M Wq])) (Mj:Hid (∀ W,Q2t W (.slice A T Uq) (.slice B M Wq) s -> Q0g W (.agg #[.int .i64 lim,.slice A T Uq,.slice B M Wq]) s)) (HV:Hid (Q0w s)) (HT:Hid (s.ships.length=T)) (HM:Hid (s.members.length=M)) (Y3:Hid (s.limit=lim)) (ek:Hid (0 < n /\ G.length=n /\ n <= 8)) (E7:Hid (∀ j,j < n -> (G.getD j []).length <= 8 /\ ∀ k ∈ G.getD j [],k < M)) (kX:Hid (w.heap.size <= MB /\ gs < MB /\ MB <= O)) (HO:Hid (Q1b z0 MB 153 2 Q5m (.slice (some ⟨O,0,none⟩) n Qq) (X8c G vs fun _=>0))) (HI:Hid (∀ j,j < n -> Q0n z0 MB 3 (.int .i64) (vs j) ((G.getD j []).map Int.ofNat)))
    (F:Array Value) (hF:F.size=131) (f1:F[1]?=some (.pointer (some ⟨gs,0,none⟩))) (f3:F[3]?=some (.slice (some ⟨O,0,none⟩) n Qq)) :
    (codeFrom Tryz.f137 11).wp prog (bodyPost prog Tryz.f137 (fun e w'=>∃ x,e=.returned x /\ Q1q w' x (G.map fun l=>⟨l.map Int.ofNat,X4p s l⟩) /\ Ext w w')) ⟨F,[]⟩ z0:=by
 obtain ⟨u,rfl⟩:=J4d hF;replace f1:u 1=_:=Option.some.inj f1;replace f3:u 3=_:=Option.some.inj f3;rw [f1,f3];clear hF f1 f3
 conv=>arg 2; whnf
 have LJ:=HV.out.tides.2;rw [HT.out] at LJ;have Aj:=J6f (n:=T) (by omega)
 obtain ⟨T2,Ew⟩:∃ z,2 ^ T=z:=⟨_,rfl⟩;have vf:=hid Ew;have S6:=K1r (n:=T) (by omega)
 rw [Ew] at Aj S6;clear Ew;have pK:Hid (T2 <= 64):=hid (by rw [<- vf.out]; exact Nat.le_trans (Nat.pow_le_pow_right (n:=2) (by omega) LJ) (by decide))
 have cm:=hid LJ;clear LJ;have W7:=hid Aj;have Vb:=hid S6;clear Aj S6;obtain ⟨gO,capO,cur0,eO,-,xK,-,-,-,-⟩:=Q5d HO.out (by rw [Q1i,ek.out.2.1]; exact ek.out.1)
 rw [Q1i,ek.out.2.1] at eO;injection eO with e1 e2 e3;injection e1 with e1;injection e1 with e1 e4;subst e1;have Rw:=hid xK;clear xK e2 e3 e4;have K8:Hid (∀ W,Off O z0 W -> Ext w W):=hid (fun W h=>Below.trans Lq.out (h.1.mono (by have:=kX.out; omega)))
 have mG:Hid (∀ W,Off O z0 W -> Blk W gs 25 #[.int .i64 lim,.slice A T Uq,.slice B M Wq]):=hid (fun W h=>h.blk KB.out (by have:=kX.out; omega))
 have P9:Hid (∀ W j,j < n -> Off O z0 W -> Q0n W MB 3 (.int .i64) (vs j) ((G.getD j []).map Int.ofNat)):=hid (fun W j hj h=>J2f (HI.out j hj) Rw.out (by decide) h)
 have uf:Hid (O < z0.heap.size):=hid Rw.out.lt;go_wp2_with fail
 go_loopw [6] (fun i wr=>∃ k:Nat,k <= n /\ i=.int .i64 k /\ Q1b wr MB 153 2 Q5m (.slice (some ⟨O,0,none⟩) n Qq) (X8c G vs (wF s G k 0)) /\ Off O z0 wr) (fun i _=>n - (intOf i).toNat)
 case atStart=>exact ⟨0,Nat.zero_le _,rfl,by rw [J4m]; exact HO.out,Off.refl _ _⟩
 case round =>
  obtain ⟨k,hk,rfl,Yq,dz⟩:=hrel;have lq:=hid Yq;have Vw:=hid dz;clear Yq dz
  by_cases Tq:k < n
  . skip
    have Lj:(k:Int) < (n:Int):=by omega
    have dy:=hid Tq;go_wp2_with fail
    go_loopw [7] (fun i wr=>∃ c:Nat,c <= T2 /\ i=.int .i64 c /\ Q1b wr MB 153 2 Q5m (.slice (some ⟨O,0,none⟩) n Qq) (X8c G vs (wF s G k c)) /\ Off O z0 wr) (fun i _=>T2 - (intOf i).toNat)
    case atStart=>exact ⟨0,Nat.zero_le _,rfl,lq.out,Vw.out⟩
    case round =>
     clear lq Vw;obtain ⟨c,hc,rfl,Yq,dz⟩:=hrel;have lq:=hid Yq;have Vw:=hid dz;have K9:=hid (mG.out _ dz);clear Yq dz;have d0:=K9.out.cell 0;have d1:=K9.out.cell 1;have d2:=K9.out.cell 2;simp only [Go.Tw.gA,Go.Tw.gB,Go.Tw.gC] at d0 d1 d2;have Aj:=W7.out;have S6:=Vb.out
     by_cases my:c < T2
     . skip
       have tf:(c:Int) < (T2:Int):=by omega
       have J8:=hid my;go_wp2_with fail;clear Aj S6 d0 d1 d2;obtain ⟨l,hl⟩:∃ z,G.getD k []=z:=⟨_,rfl⟩;have HL:=hid hl;have C5:=E7.out k dy.out;have hik:=P9.out _ k dy.out Vw.out;rw [hl] at C5 hik;have Q9:=hid C5;obtain ⟨X0,nx,oK,-⟩:=hik.shape;rw [List.length_map] at oK;have Jk:=hik.ints (by rw [List.length_map]; omega)
       rw [oK] at Jk;obtain ⟨gB,capB,curB,eB,-,yg,-,-,-,KJ⟩:=Q5d lq.out (by rw [Q1i,ek.out.2.1]; exact ek.out.1)
       rw [Q1i,ek.out.2.1] at eB;injection eB with f1 f2 f3;injection f1 with f1;injection f1 with f1 f4;subst f1;clear f2 f3 f4;have Dw:k < (X8c G vs (wF s G k c)).length:=by rw [Q1i,ek.out.2.1]; exact dy.out
       have Az:=X1b Q4m yg KJ (i:=k) (j:=0) Dw (by decide)
       have Rx:=X1b Q4m yg KJ (i:=k) (j:=1) Dw (by decide)
       rw [Q4q] at Az Rx;replace Az:wr.cell? ⟨O,k * 2,none⟩=some (vs k):=Az;replace Rx:wr.cell? ⟨O,k * 2 + 1,none⟩=some (.int .i64 (wF s G k c k)):=Rx;rw [oK] at Az;rw [J9x,hl] at Rx;obtain ⟨nl,Qw⟩:∃ z,l.length=z:=⟨_,rfl⟩;have D7:=hid Qw;rw [Qw] at Az;have Fw:=hid Jk;rw [Qw] at Fw;have G8:=hid Az;have sj:=hid Rx;have lk:=hid yg;have D9:=hid KJ;have Mr:=hid oK;clear Az Rx yg KJ oK Jk hik hl Qw Dw;obtain ⟨wq,rfl⟩:∃ Z,Z=wr:=⟨_,rfl⟩;have F8:Hid (Ext w wq):=hid (K8.out _ Vw.out);obtain ⟨cl,hcl⟩:∃ z,Q5l c T=z:=⟨_,rfl⟩;have Yz:=hid hcl;clear hcl
       go_loopw [8,9] (fun o i wr=>∃ j:Nat,j <= nl /\ i=.int .i64 j /\ Q0n wr wq.heap.size 3 (.int .i64) o (Q9v s l c j) /\ Ext wq wr) (fun _ i _=>nl - (intOf i).toNat)
       case atStart=>exact ⟨0,Nat.zero_le _,rfl,Q0n.nil _ _ _ _,Ext.refl _⟩
       case round =>
        obtain ⟨j,hj,rfl,Yq,Dq⟩:=hrel;obtain ⟨vo,rfl⟩:∃ z,z=u8:=⟨_,rfl⟩;have Og:=hid Yq;have rq:=hid Dq;have c0:=Dq.cell G8.out;clear Yq Dq
        by_cases Ub:j < nl
        . skip
          have Q7:(j:Int) < (nl:Int):=by omega
          have ay:Hid (wrap64 ((j:Int) + 1)=(j:Int) + 1):=hid (by have:=Q9.out.1; have:=D7.out; unfold wrap64; omega)
          have Zj:j < l.length:=by rw [D7.out]; exact Ub
          obtain ⟨X1,nx1,e1,-,-,M8⟩:=Fw.out.opened;obtain ⟨bx0,ox,hX,Xq⟩:=M8 j (by rw [List.length_map]; exact Zj)
          injection e1 with e1 e2 e3;subst e1;subst hX;clear e2 e3 M8;obtain ⟨mi,a6⟩:∃ z,l.getD j 0=z:=⟨_,rfl⟩;have am:=hid a6;have e0:l.getD j 0=l[j]:=by simp [Zj]
          have qw:mi < M:=by rw [<- a6,e0]; exact Q9.out.2 _ (List.getElem_mem Zj)
          clear e0;have R6:ix (l.map Int.ofNat) j=(mi:Int):=by rw [<- a6]; simp [ix,Zj]
          rw [R6] at Xq;have qz:=hid Xq;have gX:=hid qw;clear Xq R6 a6 qw;have fj:=Z8n s c Zj;rw [am.out,HT.out,Yz.out,J2x,Y3.out] at fj;obtain ⟨pk,Wx⟩:∃ z,(Q2a s mi).Q7b cl=z:=⟨_,rfl⟩;rw [Wx] at fj;obtain ⟨q,hq⟩:∃ z,Z9w lim pk=z:=⟨_,rfl⟩;rw [hq] at fj;have Gj:=hid fj;have Zn:Hid (∀ W:World,Calls prog 130 #[.int .i64 (c:Int),.int .i64 (T:Int)] W fun e w'=>∃ x,e=.returned x /\ Q1f w' x cl /\ Ext W w'):=hid (fun W=>by have h:=Z7p W c T (by have:=pK.out; have:=J8.out; omega) (by have:=cm.out; omega); rwa [Yz.out] at h)
          have Yn:Hid (∀ (W:World) (u:Value),Ext w W -> Q1f W u cl -> Calls prog 51 #[.agg #[.int .i64 lim,.slice A T Uq,.slice B M Wq],.int .i64 (mi:Int),u] W fun e w'=>∃ x,e=.returned x /\ Q0e w' x pk /\ Ext W w'):=hid (fun W u hW hu=>by have h:=J1u W _ u (Mj.out W (H2.out.ext hW)) hu HV.out (by rw [HM.out]; exact gX.out) (by rw [<- Yz.out,X1m,HT.out]); rwa [Wx] at h)
          have WY:Hid (∀ (W:World) (u:Value),Ext w W -> Q0e W u pk -> Calls prog 104 #[.agg #[.int .i64 lim,.slice A T Uq,.slice B M Wq],u] W fun e w'=>e=.returned (.bool q) /\ Ext W w'):=hid (fun W u hW hu=>by have h:=Z5b W _ u s pk (Mj.out W (H2.out.ext hW)) hu; rwa [Y3.out,hq] at h)
          clear fj Wx hq Zj;obtain ⟨wz,rfl⟩:∃ Z,Z=wr:=⟨_,rfl⟩;have KZ:=hid (K9.out.ext rq.out);have V3:=hid (F8.out.trans rq.out);have fy:=hid c0;have Vq:=(Ext.refl wz).drew
          go_light
          go_wp2_with fail;clear c0;refine Flow.Q1h [.w,.w,.p,.p,.p,.p,.w,.p,.p,.w,.p,.p,.w,.p,.w,.w,.w] [0,1,2,3,4,5,6,7,8,9,10,11,12,13,14,15,16] [[],[],[],[],[2,3],[4],[5],[],[6,7],[8],[],[],[11],[12],[10,13],[1,9,14],[0,15]]
           [.c 0 (.agg #[.int .i64 lim,.slice A T Uq,.slice B M Wq]),.c 1 (.agg #[.int .i64 lim,.slice A T Uq,.slice B M Wq]),.c 2 (.slice (some ⟨O,0,none⟩) n Qq),.c 3 (.int .i64 (k:Int)),.c 4 (.pointer (some ⟨O,k * 2,none⟩)),.c 5 (.pointer (some ⟨O,k * 2,none⟩)),.c 6 (.slice (some ⟨bx0,ox,none⟩) nl nx),.c 7 (.int .i64 (j:Int)),.c 8 (.pointer (some ⟨bx0,ox + j,none⟩)),.c 9 (.int .i64 (mi:Int)),.c 10 (.int .i64 (c:Int)),.c 11 (.pointer (some ⟨gs,1,none⟩)),.c 12 (.slice A T Uq),.c 13 (.int .i64 (T:Int)),⟨fun v wz=>(fun v w'=>Q1f w' (v 14) cl) v wz,by intro v a b hx h; exact Q1f.ext h hx⟩,⟨fun v wz=>(fun v w'=>Q0e w' (v 15) pk) v wz,by intro v a b hx h; exact Q0e.ext h hx⟩,.c 16 (.bool q)]
           (by kernel_rfl) rfl (by kernel_rfl) ⟨?g0,?g1,?g2,?g3,?g4,?g5,?g6,?g7,?g8,?g9,?g10,?g11,?g12,?g13,?g14,?g15,?g16,trivial⟩ ?post
          case g0 | g1=>
           intro v w1 hx;intro bb hbb;intro K2 jq;have o1:bb.eval (.tmp 1)=.pointer (some ⟨gs,0,none⟩):=by rw [hbb]; dsimp only; (try simp (discharger:=decide) only [eval_put_ne]); rfl
           exact Q0i (.tmp 1) _ rfl Q9r Q6r o1 (KZ.out.ext (Vq.trans hx)) rfl (jq _ _ (Ext.refl _) rfl)
          case g2 | g3 | g7 | g10 | g11=>
           intro v w1 hx;intro bb hbb;subst hbb;refine ⟨_,fun w=>?_,rfl⟩;go_simp
          case g4 | g5 | g8 | g13=>
           intro v w1 hx;(repeat intro (zq:v _=_));intro bb hbb;subst hbb;refine ⟨_,fun w=>?_,rfl⟩;go_simp
          case g6 | g9 | g12=>
           intro v w1 hx;(repeat intro (zq:v _=_));intro bb hbb;subst hbb;have n0:w1.cell? ⟨O,k * 2,none⟩=some (.slice (some ⟨bx0,ox,none⟩) nl nx):=(Vq.trans hx).cell fy.out;have n1:w1.cell? ⟨bx0,ox + j,none⟩=some (.int .i64 (mi:Int)):=(rq.out.trans (Vq.trans hx)).cell qz.out;have n2:w1.cell? ⟨gs,1,none⟩=some (.slice A T Uq):=(KZ.out.ext (Vq.trans hx)).cell 1;intro K hK;go_simp;exact hK _ _ (Ext.refl _) rfl
          case g14=>
           intro v w1 hx;(repeat intro (zq:v _=_));intro bb hbb;subst hbb;intro K2 jq;go_simp;refine Q0d (Zn.out w1) ?_;rintro e w2 ⟨u,rfl,hu,Mq⟩;exact ⟨_,rfl,jq _ _ Mq hu⟩
          case g15=>
           intro v w1 hx (q1:v 1=_) (q9:v 9=_) (q14:(fun v w'=>Q1f w' (v 14) cl) v w1);intro bb hbb;subst hbb;intro K2 jq;go_simp;refine Q0d (Yn.out w1 _ (V3.out.trans (Vq.trans hx)) q14) ?_;rintro e w2 ⟨u,rfl,hu,Mq⟩;exact ⟨_,rfl,jq _ _ Mq hu⟩
          case g16=>
           intro v w1 hx (q0:v 0=_) (q15:(fun v w'=>Q0e w' (v 15) pk) v w1);intro bb hbb;subst hbb;intro K2 jq;go_simp;refine Q0d (WY.out w1 _ (V3.out.trans (Vq.trans hx)) q15) ?_;rintro e w2 ⟨rfl,Mq⟩;exact ⟨_,rfl,jq _ _ Mq rfl⟩
          case post =>
           intro v w1 hx;(iterate 14 intro (zq:v _=_));intro (q14:(fun v w'=>Q1f w' (v 14) cl) v w1) (q15:(fun v w'=>Q0e w' (v 15) pk) v w1);(iterate 1 intro (zq:v _=_));simp only [Flow.All,Flow.acts,Act.put];go_simp;have Zq:=rq.out.trans (Vq.trans hx);have Yq:=Og.out.below (Vq.trans hx);have c9:=(Vq.trans hx).cell fy.out;have ce:=Zq.cell qz.out;have aj:=hid Zq;clear hx Vq q14 q15;(repeat clear zq);obtain ⟨w3,rfl⟩:∃ X,X=w1:=⟨_,rfl⟩;cases q with
           | true =>
             have qq:Hid (Q9v s l c (j + 1)=Q9v s l c j ++ [(mi:Int)]):=hid (by rw [Gj.out,if_pos (by trivial)])
             have Mv:(Q9v s l c j).length <= 4096:=by have:=Y0z s l c j; have:=Q9.out.1; omega
             have Sx:=hid Yq;have Dj:=aj.out;clear Zq;obtain ⟨i0,hi,fq,mq,iq⟩:=info_parts info3;go_wp2_with (at_builtin; refine wpList_append_own _ rfl _ _ 22 rfl (wq.heap.size) 3 i0 (.int .i64 0) 1 8 underlying22 hi fq mq iq rfl (by decide) vo _ _ rfl (World.ownsRow.alloc Yq _) ⟨w3.heap.size,0,none⟩ 1 1 [.int .i64 (mi:Int)] rfl rfl ?_ ?_ ?_ ?_ ?_ ?_; exact Q4d _ _ _; (focus (simp [Value.oneCell'])); (focus (unfold maxLen; omega)); (focus omega); (focus (have:=Dj.size; simp at this ⊢; omega)); intro v' w1 Oq Pq _)
             have hx':=Q2d Dj Sx.out (Nat.le_refl _) Pq;go_roundw
             case rel=>exact ⟨j + 1,by omega,by rw [ay.out]; go_num,by rw [qq.out]; exact Q0n.snoc Oq,hx'⟩
             case measure=>rw [ay.out]; simp [intOf]; omega
           | false =>
             have qq:Hid (Q9v s l c (j + 1)=Q9v s l c j):=hid (by rw [Gj.out]; simp)
             have Sx:=hid Yq;clear Yq Zq;go_wp2;go_roundw
             case rel=>exact ⟨j + 1,by omega,by rw [ay.out]; go_num,by rw [qq.out]; exact Sx.out,aj.out⟩
             case measure=>rw [ay.out]; simp [intOf]; omega
        . skip
          have Q7:¬ (j:Int) < (nl:Int):=by omega
          have N5:j=nl:=by omega
          subst N5;obtain ⟨g0,K7⟩:∃ z,Z3z s l c=z:=⟨_,rfl⟩;obtain ⟨g1,O0⟩:∃ z,X2i s l c=z:=⟨_,rfl⟩;have Wn:Hid (Q1u s (Q9v s l c j)=g1):=hid (by rw [<- O0,<- D7.out]; exact Z0t s l c)
          have rj:=sj.out;rw [K7] at rj;have HC2h:=hid rj;clear rj;have Cy:Hid ((fun i=>if i=k then max g0 g1 else wF s G k c i)=wF s G k (c + 1)):=hid (by rw [<- K7,<- O0,<- HL.out]; exact J8u s G k c)
          clear K7 O0;have G2:=hid (Og.out.ints (by have:=Y0z s l c j; have:=Q9.out.1; omega))
          have C4:Hid (∀ x ∈ Q9v s l c j,0 <= x /\ x < s.members.length):=hid (Z2m (by rw [HM.out]; exact Q9.out.2) c j)
          have U3:Hid ((Q9v s l c j).length <= 4096):=hid (by have:=Y0z s l c j; have:=Q9.out.1; omega)
          obtain ⟨wz,rfl⟩:∃ Z,Z=wr:=⟨_,rfl⟩;have KZ:=hid (K9.out.ext rq.out);have V3:=hid (F8.out.trans rq.out);have fy:=hid (rq.out.cell HC2h.out);have nK:=hid (lq.out.below rq.out);have mK:=hid (Vw.out.ext rq.out (by have:=Vw.out.2.1; have:=uf.out; omega))
          have Vq:=(Ext.refl wz).drew;go_wp2_with fail;clear c0;refine Flow.Q4h [.p,.p,.p,.p,.p,.p,.w,.w,.p,.w,.w,.p,.p,.last] [0,1,2,3,4,5,6,7,8,9,10,11,12,13] [[],[],[],[],[2,3],[2,3,4],[2,3,4,5],[],[],[7,8],[2,3,4,5,6,7,8,9],[0,1,2,3,4,5,6,7,8,9,10],[0,1,2,3,4,5,6,7,8,9,10,11],[0,1,2,3,4,5,6,7,8,9,10,11,12]] [13]
           [.c 0 (.slice (some ⟨O,0,none⟩) n Qq),.c 1 (.int .i64 (k:Int)),.c 2 (.slice (some ⟨O,0,none⟩) n Qq),.c 3 (.int .i64 (k:Int)),.c 4 (.pointer (some ⟨O,k * 2,none⟩)),.c 5 (.pointer (some ⟨O,k * 2 + 1,none⟩)),.c 6 (.int .i64 g0),.c 7 (.agg #[.int .i64 lim,.slice A T Uq,.slice B M Wq]),.c 8 (vo),.c 9 (.int .i64 g1),.c 10 (.int .i64 (max g0 g1)),.c 11 (.pointer (some ⟨O,k * 2,none⟩)),.c 12 (.pointer (some ⟨O,k * 2 + 1,none⟩)),.none]
           [fun v w1 w'=>w'=w1.setCell ⟨O,k * 2 + 1,none⟩ (.int .i64 (max g0 g1))] (by kernel_rfl) rfl (by kernel_rfl) ⟨?g0,?g1,?g2,?g3,?g4,?g5,?g6,?g7,?g8,?g9,?g10,?g11,?g12,?g13,trivial⟩ ?post
          case g0 | g1 | g2 | g3 | g8=>
           intro v w1 hx;intro bb hbb;subst hbb;refine ⟨_,fun w=>?_,rfl⟩;go_simp
          case g4 | g5 | g11 | g12=>
           intro v w1 hx;(repeat intro (zq:v _=_));intro bb hbb;subst hbb;refine ⟨_,fun w=>?_,rfl⟩;go_simp
          case g6=>
           intro v w1 hx;(repeat intro (zq:v _=_));intro bb hbb;subst hbb;have n0:w1.cell? ⟨O,k * 2 + 1,none⟩=some (.int .i64 g0):=(Vq.trans hx).cell fy.out;intro K hK;go_simp;exact hK _ _ (Ext.refl _) rfl
          case g7=>
           intro v w1 hx;intro bb hbb;intro K2 jq;have o1:bb.eval (.tmp 1)=.pointer (some ⟨gs,0,none⟩):=by rw [hbb]; dsimp only; (try simp (discharger:=decide) only [eval_put_ne]); rfl
           exact Q0i (.tmp 1) _ rfl Q9r Q6r o1 (KZ.out.ext (Vq.trans hx)) rfl (jq _ _ (Ext.refl _) rfl)
          case g9=>
           intro v w1 hx;(repeat intro (zq:v _=_));intro bb hbb;subst hbb;intro K2 jq;go_simp;refine Q0d (X8x w1 _ _ s _ (Mj.out _ (H2.out.ext (V3.out.trans (Vq.trans hx)))) (G2.out.ext (Vq.trans hx)) HV.out C4.out U3.out) ?_;rintro e w2 ⟨rfl,Mq⟩;exact ⟨_,rfl,jq _ _ Mq (congrArg (Value.int .i64) Wn.out)⟩
          case g10=>
           intro v w1 hx;(repeat intro (zq:v _=_));intro bb hbb;subst hbb;intro K hK;go_simp;exact hK _ _ (Ext.refl _) rfl
          case g13=>
           intro v w1 hx;(repeat intro (zq:v _=_));intro wl hT;obtain rfl:wl=w1:=hT;intro bb hbb;intro K hK;obtain ⟨gB,capB,cur,eB,m9,ux,S4,Q6,pq,lg⟩:=Q5d (nK.out.below (Vq.trans hx)) (by rw [Q1i,ek.out.2.1]; exact ek.out.1)
           rw [Q1i,ek.out.2.1] at eB;injection eB with f1 f2 f3;injection f1 with f1;injection f1 with f1 f4;subst f1;have o1:bb.eval (.tmp 129)=.pointer (some ⟨O,k * 2 + 1,none⟩):=by rw [hbb]; dsimp only; (try simp (discharger:=decide) only [eval_put_ne]); rw [Q0a (by simp only [size_put]; exact (by decide:129 < 131))]; assumption
           have o2:bb.eval (.tmp 127)=.int .i64 (max g0 g1):=by rw [hbb]; dsimp only; (try simp (discharger:=decide) only [eval_put_ne]); rw [Q0a (by simp only [size_put]; exact (by decide:127 < 131))]; assumption
           exact Q3z (.tmp 129) (.tmp 127) rfl J4v (g:=O) (k:=k * 2 + 1) o1 o2 rfl rfl ux (by rw [pq]; rw [Q1i,ek.out.2.1] at S4; have:=dy.out; omega) (fun v'=>hK _ _ rfl)
          case post =>
           intro v w1 hx;(iterate 13 intro (zq:v _=_));intro w2 hE;replace hE:(fun v w1 w'=>w'=w1.setCell ⟨O,k * 2 + 1,none⟩ (.int .i64 (max g0 g1))) v w1 w2:=hE;simp only [Flow.acts,Act.put];go_simp;subst hE;have Zq:=Vq.trans hx;obtain ⟨gB,capB,cur,eB,m9,ux,S4,Q6,pq,lg⟩:=Q5d (nK.out.below Zq) (by rw [Q1i,ek.out.2.1]; exact ek.out.1)
           rw [Q1i,ek.out.2.1] at eB;injection eB with f1 f2 f3;injection f1 with f1;injection f1 with f1 f4;subst f1;subst f3;have Dw:k < (X8c G vs (wF s G k c)).length:=by rw [Q1i,ek.out.2.1]; exact dy.out
           have Ez:=Z5r (i:=k) (j:=1) (x:=.int .i64 (max g0 g1)) (y:=(vs k,⟨(G.getD k []).map Int.ofNat,max g0 g1⟩)) Q4m m9 S4 Q6 pq lg Dw (by decide:1 < 2) (by rw [Q4q]; rfl) (ux.set (k * 2 + 1) _)
           rw [J3t,Cy.out,Q1i,ek.out.2.1] at Ez;have Tb:=hid Ez;have Sb:=hid ((mK.out.ext Zq (by have:=mK.out.2.1; have:=uf.out; omega)).set (k * 2 + 1) (.int .i64 (max g0 g1)))
           clear hx Vq Zq ux S4 Q6 pq lg Ez m9 Dw;(repeat clear zq);go_wp2;go_roundw
           all_goals have Z2:wrap64 ((c:Int) + 1)=(c:Int) + 1:=by have:=pK.out; have:=J8.out; unfold wrap64; omega
           case rel=>exact ⟨c + 1,by have:=J8.out; omega,by rw [Z2]; go_num,Tb.out,Sb.out⟩
           case measure=>have:=J8.out; rw [Z2]; simp [intOf]; omega
     . skip
       have tf:¬ (c:Int) < (T2:Int):=by omega
       have kK:c=T2:=by omega
       subst kK;have Vn:Hid (Q1b wr MB 153 2 Q5m (.slice (some ⟨O,0,none⟩) n Qq) (X8c G vs (wF s G (k + 1) 0))):=hid (by rw [<- J7p,HT.out,vf.out]; exact lq.out)
       go_wp2;go_roundw
       all_goals have Z2:wrap64 ((k:Int) + 1)=(k:Int) + 1:=by have:=ek.out.2.2; have:=dy.out; unfold wrap64; omega
       case rel=>exact ⟨k + 1,by have:=dy.out; omega,by rw [Z2]; go_num,Vn.out,Vw.out⟩
       case measure=>have:=dy.out; rw [Z2]; simp [intOf]; omega
  . skip
    have Lj:¬ (k:Int) < (n:Int):=by omega
    have Cj:k=n:=by omega
    subst Cj;go_wp2;go_ret;refine ⟨_,rfl,?_,K8.out _ Vw.out⟩;have h:=Z8f lq.out (by rw [Q1i,ek.out.2.1]; exact ek.out.2.2) (fun q hq=>?_)
    . rw [show wF s G k 0=wF s G G.length 0 by rw [ek.out.2.1],J5h] at h; exact h
    . obtain ⟨j,hj,rfl⟩:=List.getElem_of_mem hq
      rw [Q4q];have C3:j < k:=by rw [Q1i,ek.out.2.1] at hj; exact hj
      have h8:=(E7.out j C3).1;exact (P9.out _ j C3 Vw.out).ints (by rw [List.length_map]; omega)
end Go.Proofs
namespace Go.Proofs
open Go.RowKit Go.Tw Go.Flow
def X9j (u v:Value):Prop:=∀ b,u.ownBlock=some b -> v.ownBlock ≠ some b
theorem Y3s {α:Type} {enc:α -> List Value} {w w':World} {v cv:Value} {l:List α} {B k base n size:Nat} {T e:TypeId} {xs:List Value} (h:Q1b w B T k enc v l) (Yq:w.ownsRow base e size cv n xs) (he:e ≠ T) (hg:w.grownBy w' cv.ownBlock):Q1b w' B T k enc v l:=by
 obtain ⟨h1,h2⟩:=h;refine ⟨h1,?_⟩
 rcases h2 with h2 | ⟨g,Qq,cur,hv,hb,Qj,r⟩
 . exact .inl h2
 . refine .inr ⟨g,Qq,cur,hv,hb,?_,r⟩
   rw [hg.block g (Array.getElem?_eq_some_iff.1 Qj).1 ?_]; exact Qj;intro e'
   rcases Yq.2 with ⟨rfl,_⟩ | ⟨g',_,cur',rfl,_,Lk,_⟩
   . cases e'
   . have e2:g=g':=by simpa [Value.ownBlock] using e'
     rw [e2,Lk] at Qj;injection Qj with Qj;injection Qj with _ h3 _;exact he h3
theorem Z8x {w w':World} {v cv:Value} {l:List Int} {B base n size:Nat} {T e:TypeId} {xs:List Value} (h:Q0n w B T (Value.int .i64) v l) (Yq:w.ownsRow base e size cv n xs) (he:e ≠ T) (hg:w.grownBy w' cv.ownBlock):Q0n w' B T (Value.int .i64) v l:=by
 obtain ⟨h1,h2⟩:=h;refine ⟨h1,?_⟩
 rcases h2 with h2 | ⟨g,Qq,cur,hv,hb,Qj,r⟩
 . exact .inl h2
 . refine .inr ⟨g,Qq,cur,hv,hb,?_,r⟩
   rw [hg.block g (Array.getElem?_eq_some_iff.1 Qj).1 ?_]; exact Qj;intro e'
   rcases Yq.2 with ⟨rfl,_⟩ | ⟨g',_,cur',rfl,_,Lk,_⟩
   . cases e'
   . have e2:g=g':=by simpa [Value.ownBlock] using e'
     rw [e2,Lk] at Qj;injection Qj with Qj;injection Qj with _ h3 _;exact he h3
theorem Z2d {w w':World} {B:Nat} {T:TypeId} {p f:Value} {l:List Int} (h:Q0n w B T (Value.int .i64) f l) (hg:w.grownBy w' p.ownBlock) (ha:X9j p f):Q0n w' B T (Value.int .i64) f l:=by
 obtain ⟨h1,h2⟩:=h;refine ⟨h1,?_⟩
 rcases h2 with h2 | ⟨g,Qq,cur,hv,hb,Qj,r⟩
 . exact .inl h2
 . refine .inr ⟨g,Qq,cur,hv,hb,?_,r⟩
   rw [hg.block g (Array.getElem?_eq_some_iff.1 Qj).1 ?_]; exact Qj;intro e';exact ha g e'.symm (by rw [hv]; rfl)
theorem Y7z {w:World} {v u:Value} {l:List Int} {B O k:Nat} {T S:TypeId} {cs:Array Value} (h:Q0n w B T (Value.int .i64) v l) (hb:Blk w O S cs) (hT:S ≠ T):Q0n (w.setCell ⟨O,k,none⟩ u) B T (Value.int .i64) v l:=by
 obtain ⟨h1,h2⟩:=h;refine ⟨h1,?_⟩
 rcases h2 with h2 | ⟨g,Qq,cur,hv,hbb,Qj,r⟩
 . exact .inl h2
 . refine .inr ⟨g,Qq,cur,hv,hbb,?_,r⟩
   rw [Below.heap_setCell _ _ _ _ ?_]; exact Qj;intro e';have e2:g=O:=e';unfold Blk at hb;rw [e2,hb] at Qj;injection Qj with Qj;injection Qj with _ h3 _;exact hT h3
theorem Y0m {w wa:World} {B:Nat} {T:TypeId} {p f v':Value} {l:List Int} (hf:Q0n w B T (Value.int .i64) f l) (hs:w.heap.size <= wa.heap.size) (ha:X9j p f) (F2:v'.ownBlock=p.ownBlock ∨ v'.ownBlock=some wa.heap.size):X9j v' f:=by
 intro b hb sf;have Tq:=(World.ownsRow.lt hf b sf).2
 rcases F2 with h | h
 . exact ha b (h ▸ hb) sf
 . rw [h] at hb
   cases hb;omega
theorem X9j.symm {p f:Value} (h:X9j p f):X9j f p:=fun b hb hp=>h b hp hb
structure Y6y (w:World) (MB:Nat) (G:List (List Nat)) (vs:Nat -> Value) (o:Value):Prop where
 own:Q1b w MB 153 2 Q5m o (X8c G vs fun _=>0)
 mem:∀ j,j < G.length -> Q0n w MB 3 (.int .i64) (vs j) ((G.getD j []).map Int.ofNat)
 ap:∀ i j,i < G.length -> j < G.length -> i ≠ j -> X9j (vs i) (vs j)
theorem Y6y.nil (w:World) (MB:Nat) (vs:Nat -> Value):Y6y w MB [] vs (.slice none 0 0):=⟨Q1b.nil _ _ _ _ _,fun _ h=>absurd h (Nat.not_lt_zero _),fun _ _ h=>absurd h (Nat.not_lt_zero _)⟩
theorem Y6y.ext {w w':World} {MB:Nat} {G:List (List Nat)} {vs:Nat -> Value} {o:Value} (h:Y6y w MB G vs o) (hx:Ext w w'):Y6y w' MB G vs o:=⟨h.own.below hx,fun j hj=>(h.mem j hj).below hx,h.ap⟩
def Z7x (n:Nat) (vs:Nat -> Value) (j:Nat):Value:=if j < n then vs j else .slice none 0 0
theorem Y4n {G:List (List Nat)} {j:Nat} (hj:j < G.length):(G ++ [[]]).getD j []=G.getD j []:=by
 rw [List.getD_eq_getElem?_getD,List.getD_eq_getElem?_getD,List.getElem?_append_left hj]
theorem J4j (G:List (List Nat)) (vs:Nat -> Value):X8c (G ++ [[]]) (Z7x G.length vs) (fun _=>0)=X8c G vs (fun _=>0) ++ [(.slice none 0 0,⟨[],0⟩)]:=by
 unfold X8c;rw [List.length_append,List.length_singleton,List.range_succ,List.map_append]
 congr 1
 . refine List.map_congr_left fun j hj=>?_
   have hj:=List.mem_range.1 hj;unfold Z7x;rw [if_pos hj,Y4n hj]
 . simp [Z7x]
theorem Y6y.new {w w':World} {MB:Nat} {G:List (List Nat)} {vs:Nat -> Value} {o o':Value} (h:Y6y w MB G vs o) (ho:Q1b w' MB 153 2 Q5m o' (X8c G vs (fun _=>0) ++ [(.slice none 0 0,⟨[],0⟩)])) (hg:w.grownBy w' o.ownBlock):Y6y w' MB (G ++ [[]]) (Z7x G.length vs) o':=by
 refine ⟨by rw [J4j]; exact ho,fun j hj=>?_,fun i j hi hj hne=>?_⟩
 . unfold Z7x
   by_cases e:j < G.length
   . rw [if_pos e,Y4n e]
     exact Z8x (h.mem j e) h.own (by decide) hg
   . rw [if_neg e]
     have e2:j=G.length:=by rw [List.length_append,List.length_singleton] at hj; omega
     subst e2;rw [show (G ++ [[]]:List (List Nat)).getD G.length []=[] by simp]
     exact Q0n.nil _ _ _ _
 . rw [List.length_append,List.length_singleton] at hi hj
   unfold Z7x
   by_cases e:i < G.length
   . rw [if_pos e]
     by_cases e2:j < G.length
     . rw [if_pos e2]; exact h.ap i j e e2 hne
     . rw [if_neg e2]; intro b _ hb; cases hb
   . rw [if_neg e]; intro b hb; cases hb
def Z9a (j0:Nat) (v:Value) (vs:Nat -> Value) (j:Nat):Value:=if j=j0 then v else vs j
theorem Y0p {G:List (List Nat)} {j0 j:Nat} {f:List Nat -> List Nat} (hj:j < G.length):(G.modify j0 f).getD j []=if j=j0 then f (G.getD j []) else G.getD j []:=by
 have h1:j < (G.modify j0 f).length:=by rw [List.length_modify]; exact hj
 rw [List.getD_eq_getElem?_getD,List.getD_eq_getElem?_getD,List.getElem?_eq_getElem h1,List.getElem?_eq_getElem hj,Option.getD_some,Option.getD_some,List.getElem_modify]
 by_cases e:j0=j
 . rw [if_pos e,if_pos e.symm]
 . rw [if_neg e,if_neg (fun h=>e h.symm)]
theorem Y6y.add {wa w':World} {MB O n Qq j0 k:Nat} {G:List (List Nat)} {vs:Nat -> Value} {v':Value} (h:Y6y wa MB G vs (.slice (some ⟨O,0,none⟩) n Qq)) (hj:j0 < G.length) (Oq:Q0n w' MB 3 (.int .i64) v' ((G.getD j0 []).map Int.ofNat ++ [(k:Int)])) (hg:wa.grownBy w' (vs j0).ownBlock)
    (F2:v'.ownBlock=(vs j0).ownBlock ∨ v'.ownBlock=some wa.heap.size):Y6y (w'.setCell ⟨O,j0 * 2,none⟩ v') MB (G.modify j0 (· ++ [k])) (Z9a j0 v' vs) (.slice (some ⟨O,0,none⟩) n Qq):=by
 have hq:X8c G vs (fun _=>0)=X8c G vs (fun _=>0):=rfl;have Un:j0 < (X8c G vs fun _=>0).length:=by rw [Q1i]; exact hj
 have R4:=Y3s h.own (h.mem j0 hj) (by decide) hg
 obtain ⟨gB,capB,cur,eB,m9,ux,S4,Q6,pq,lg⟩:=Q5d R4 (by rw [Q1i]; omega)
 injection eB with f1 f2 f3;injection f1 with f1;injection f1 with f1 f4;subst f1 f2 f3;have Ez:=Z5r (i:=j0) (j:=0) (x:=v') (y:=(v',⟨((G.modify j0 (· ++ [k])).getD j0 []).map Int.ofNat,0⟩)) Q4m m9 S4 Q6 pq lg Un (by decide:0 < 2) (by rw [Q4q]; rfl) (ux.set (j0 * 2 + 0) _)
 have Fq:(G.modify j0 (· ++ [k])).length=G.length:=List.length_modify ..;have Rb:(X8c G vs fun _=>0).set j0 (v',⟨((G.modify j0 (· ++ [k])).getD j0 []).map Int.ofNat,0⟩)=X8c (G.modify j0 (· ++ [k])) (Z9a j0 v' vs) (fun _=>0):=by
  apply List.ext_getElem
  . rw [List.length_set,Q1i,Q1i,Fq]
  . intro i h1 h2
    rw [Q1i,Fq] at h2;rw [List.getElem_set,Q4q]
    by_cases e:j0=i
    . subst e
      rw [if_pos rfl,Q4q];rw [show Z9a j0 v' vs j0=v' from if_pos rfl]
    . rw [if_neg e,Q4q]
      unfold Z9a;rw [if_neg (fun h=>e h.symm),Y0p h2,if_neg (fun h=>e h.symm)]
 rw [Rb] at Ez;refine ⟨Ez,fun j Zj=>?_,fun i j hi Zj hne=>?_⟩
 . rw [Fq] at Zj
   rw [Y0p Zj];unfold Z9a
   by_cases e:j=j0
   . subst e
     rw [if_pos rfl,if_pos rfl,List.map_append];exact Y7z Oq ux (by decide)
   . rw [if_neg e,if_neg e]
     exact Y7z (Z2d (h.mem j Zj) hg (h.ap j0 j hj Zj (fun x=>e x.symm))) ux (by decide)
 . rw [Fq] at hi Zj
   unfold Z9a
   by_cases e:i=j0
   . rw [if_pos e]
     by_cases e2:j=j0
     . omega
     . rw [if_neg e2]
       exact Y0m (h.mem j Zj) (Nat.le_refl _) (h.ap j0 j hj Zj (fun x=>e2 x.symm)) F2
   . rw [if_neg e]
     by_cases e2:j=j0
     . rw [if_pos e2]
       exact (Y0m (h.mem i hi) (Nat.le_refl _) (h.ap j0 i hj hi (fun x=>e x.symm)) F2).symm
     . rw [if_neg e2]
       exact h.ap i j hi Zj hne
theorem Y6y.grown {wa w':World} {MB O n Qq j0:Nat} {G:List (List Nat)} {vs:Nat -> Value} (h:Y6y wa MB G vs (.slice (some ⟨O,0,none⟩) n Qq)) (hj:j0 < G.length) (hg:wa.grownBy w' (vs j0).ownBlock) :
    ∃ cs,Blk w' O 153 cs /\ w'.cell? ⟨O,j0 * 2,none⟩=some (vs j0) /\ MB <= O:=by
 have R4:=Y3s h.own (h.mem j0 hj) (by decide) hg
 obtain ⟨gB,capB,cur,eB,m9,ux,S4,Q6,pq,lg⟩:=Q5d R4 (by rw [Q1i]; omega)
 injection eB with f1 f2 f3;injection f1 with f1;injection f1 with f1 f4;subst f1;have hc:=X1b Q4m ux lg (i:=j0) (j:=0) (by rw [Q1i]; exact hj) (by decide)
 rw [Q4q] at hc;exact ⟨cur,ux,hc,m9⟩
theorem Y0q (f:Nat -> List Int) (k:Nat):∀ g ∈ Q4z f k,g ≠ [] /\ g.length <= k /\ ∀ x ∈ g,x < k:=by
 intro g hg;rw [X3n] at hg;obtain ⟨i,hi,rfl⟩:=List.mem_map.1 hg;have Xz:=List.mem_filter.1 hi;have hik:=List.mem_range.1 Xz.1;refine ⟨fun e=>?_,?_,fun x hx=>List.mem_range.1 (List.mem_filter.1 hx).1⟩
 . have h:=Q8u (f:=f) Xz.2 hik
   rw [e] at h; cases h
 . unfold Q4j
   exact Nat.le_trans (List.length_filter_le _ _) (by simp)
theorem X4d (f:Nat -> List Int) (k:Nat):(Q4z f k).length <= k:=by
 rw [X3n,List.length_map]; exact Q8k f k
theorem J4e (f:Nat -> List Int) (G:List (List Nat)) (k:Nat):Q9c f G k <= G.length:=List.findIdx_le_length
theorem Z7v {f:Nat -> List Int} {G:List (List Nat)} {k a:Nat} (ha:a <= Q9c f G k) (hl:a < G.length):decide (a < Q9c f G k) = !decide (f ((G.getD a []).headD 0)=f k):=by
 have e:G.getD a []=G[a]:=by simp [hl]
 rw [e]
 by_cases h:f (G[a].headD 0)=f k
 . rw [decide_eq_true h]
   have:¬ a < Q9c f G k:=fun Tq=>by
    have h5:=List.not_of_lt_findIdx (p:=fun (g:List Nat)=>f (g.headD 0) == f k) (xs:=G) (i:=a) Tq;have h6:(f (G[a].headD 0) == f k)=false:=h5;rw [h] at h6;simp at h6
   rw [decide_eq_false this]; rfl
 . rw [decide_eq_false h]
   have:a < Q9c f G k:=by
    rcases Nat.lt_or_ge a (Q9c f G k) with h1 | h1
    . exact h1
    . have e2:Q9c f G k=a:=Nat.le_antisymm h1 ha
      have h3:Q9c f G k < G.length:=by omega
      have:=List.findIdx_getElem (w:=h3);have e4:G[Q9c f G k]=G[a]:=by simp only [e2]
      unfold Q9c at e4;rw [e4] at this;exact absurd (by simpa using this) h
   rw [decide_eq_true this]; rfl
theorem Z1y {f:Nat -> List Int} {k:Nat} (h:Q9c f (Q4z f k) k=(Q4z f k).length):(Q4z f k ++ [[]]).modify (Q9c f (Q4z f k) k) (· ++ [k])=Q4z f (k + 1):=by
 show _=X4s f (Q4z f k) k;unfold X4s;rw [if_pos h,h];rw [List.modify_eq_take_cons_drop (by simp)]
 simp
theorem Z2x {f:Nat -> List Int} {k:Nat} (h:Q9c f (Q4z f k) k ≠ (Q4z f k).length):(Q4z f k).modify (Q9c f (Q4z f k) k) (· ++ [k])=Q4z f (k + 1):=by
 show _=X4s f (Q4z f k) k;unfold X4s;rw [if_neg h]
end Go.Proofs
namespace Go.Proofs
open Go.RowKit Go.Tw Go.Flow Tryz
attribute [local go_sem] Oper.semAt_some
theorem Tryz.J6m:(prog.info? 153).map (fun i=>(i.zero,i.size,i.bytes))=some (some (.agg #[.slice none 0 0,.int .i64 0]),2,32):=by kernel_rfl
theorem Z6r {w w0:World} {B:Nat} {T:TypeId} {v:Value} {qs:List (Value × Grp)} (h:Q1b w B T 2 Q5m v qs) (hl:qs.length <= 100000) (hr:∀ q ∈ qs,Q0e w0 q.1 q.2.members) (hx:Ext w0 w):Q1q w v (qs.map (·.2)):=by
 refine h.rowsOf (by simp) (by simp; omega) Q4m (fun j h1 h2=>?_) (fun c c' x hc h=>?_)
 . have hq:=List.getElem_mem h1
   simp only [List.getElem_map];exact ⟨(hr _ hq).ext hx,rfl⟩
 . exact ⟨by rw [<- hc 0 (by omega)]; exact h.1,by rw [<- hc 1 (by omega)]; exact h.2⟩
theorem Y0n (w:World) (v:Value) (p:List Grp) (hv:Q1q w v p) (hl:p.length <= 4096) :
    Calls prog 75 #[v] w fun e w'=>∃ u,e=.returned u /\ Q1q w' u p /\ Ext w w':=by
 obtain ⟨i0,hi,fq,mq,iq⟩:=info_parts J6m;obtain ⟨A,Qq,rfl,-,Kq,hc⟩:=hv.opened;have HC:=hid hc;obtain ⟨n,hn⟩:∃ n,p.length=n:=⟨_,rfl⟩;have HN:=hid hn;rw [hn] at hl HC ⊢;clear hv hc hn Kq;go_enter func75,ntmps75;go_wp2_with fail
 go_loopw [3,8] (fun vo i wr=>∃ (k:Nat) (qs:List (Value × Grp)),k <= n /\ i=.int .i64 k /\ Q1b wr w.heap.size 153 2 Q5m vo qs /\ qs.map (·.2)=p.take k /\ (∀ q ∈ qs,Q0e w q.1 q.2.members) /\ Ext w wr) (fun _ i _=>n - (intOf i).toNat)
 case atStart=>exact ⟨0,[],Nat.zero_le _,rfl,Q1b.nil _ _ _ _ _,rfl,(fun q hq=>by simp at hq),Ext.refl _⟩
 case round =>
  obtain ⟨k,qs,hk,rfl,Yq,Lz,RJ,Dq⟩:=hrel;have rz:qs.length=k:=by rw [<- List.length_map (f:=(·.2)),Lz,List.length_take,HN.out]; omega
  have AK:=hid RJ;have zg:=hid Lz
  by_cases Tq:k < n
  . have Lj:(k:Int) < n:=by omega
    obtain ⟨b,off,x,rfl,hb,e0,e1,mz⟩:=HC.out k Tq;replace e0:=Dq.cell e0;replace e1:=Dq.cell e1;obtain ⟨X,Rq,rfl,-,-,-⟩:=mz.opened;have Wx:p.take (k + 1)=p.take k ++ [⟨Q1w p k,Q3n p k⟩]:=by
     rw [List.take_succ_eq_append_getElem (by rw [HN.out]; exact Tq),Q1w,Q3n,Q0t _ (by rw [HN.out]; exact Tq)]
    have HI:=hid mz;have tz:=hid Wx;obtain ⟨cs,Bk⟩:∃ c,Q1w p k=c:=⟨_,rfl⟩;obtain ⟨cb,Rj⟩:∃ c,Q3n p k=c:=⟨_,rfl⟩;rw [Bk] at e0 HI tz;rw [Rj] at e1 tz;have pj:=Ext.box wr (.cells #[.slice X cs.length Rq,.int .i64 cb] 64);have rq:=hid Dq;obtain ⟨wq,rfl⟩:∃ Z,Z=wr:=⟨_,rfl⟩;clear Lz RJ mz Wx Bk Rj;go_wp2_with (at_builtin; refine halted ?_);unfold Q1o;have zK:(wq.alloc (.cells #[.slice X cs.length Rq,.int .i64 cb] 64)).heap.size=wq.heap.size + 1:=by simp
    obtain ⟨wb,nz⟩:∃ Z,wq.alloc (.cells #[.slice X cs.length Rq,.int .i64 cb] 64)=Z:=⟨_,rfl⟩;rw [nz] at pj zK ⊢;rw [<- zK];have Cv:=Yq.below pj;have hxb:=Dq.trans pj;have zj:=hid hxb;clear Yq nz
    (at_builtin; refine wpList_append_own _ rfl _ _ 119 rfl (w.heap.size) 153 i0 (.agg #[.slice none 0 0,.int .i64 0]) 2 32 underlying119 hi fq mq iq rfl (by decide) _ _ _ rfl (World.ownsRow.alloc Cv _) ⟨wb.heap.size,0,none⟩ 1 1 [.slice X cs.length Rq,.int .i64 cb] rfl rfl ?_ ?_ ?_ ?_ ?_ ?_; exact X8j _ _ _; (focus (simp [Value.oneCell'])); (focus (unfold maxLen; omega)); (focus omega); (focus (have:=hxb.size; simp at this ⊢; omega)); intro v' w1 Oq Pq _)
    have iz:=hid (Q2d hxb Cv (Nat.le_refl _) Pq);have lq:=hid (show Q1b w1 w.heap.size 153 2 Q5m v' (qs ++ [(.slice X cs.length Rq,⟨cs,cb⟩)]) from Q1b.snoc Oq)
    clear Pq Oq Cv pj e0 e1 hxb;go_wp2;go_roundw
    case rel=>exact ⟨k + 1,qs ++ [(.slice X cs.length Rq,⟨cs,cb⟩)],by omega,by go_num,lq.out,by rw [List.map_append,zg.out,tz.out]; rfl,
     (fun q hq=>by
      rcases List.mem_append.1 hq with hq | hq
      . exact AK.out q hq
      . rw [List.mem_singleton.1 hq]; exact HI.out),iz.out⟩
    case measure=>simp [intOf]; omega
  . have Lj:¬ (k:Int) < n:=by omega
    have nj:k=n:=by omega
    subst nj;have hp:p.take k=p:=by rw [List.take_of_length_le (by rw [HN.out]; omega)]
    have hr:=Z6r Yq (by omega) AK.out Dq
    rw [zg.out,hp] at hr;have HR:=hid hr;clear Yq Lz RJ hr hp;go_wp2;go_ret;exact ⟨_,rfl,HR.out,Dq⟩
theorem Z0g {s:Q0b} {M:Nat} (hM:s.members.length=M) (hS:Q0w s):0 < (Q4z (Q8h s) M).length /\ (Q4z (Q8h s) M).length <= 8 /\ ∀ j,j < (Q4z (Q8h s) M).length -> ((Q4z (Q8h s) M).getD j []).length <= 8 /\ ∀ k ∈ (Q4z (Q8h s) M).getD j [],k < M:=by
 have h8:=hS.some;rw [hM] at h8;have hl:=X4d (Q8h s) M;refine ⟨?_,by omega,fun j hj=>?_⟩
 . rw [X3n,List.length_map]
   have:0 ∈ Q5p (Q8h s) M:=List.mem_filter.2 ⟨List.mem_range.2 h8.1,rfl⟩;exact List.length_pos_of_mem this
 . have e:(Q4z (Q8h s) M).getD j [] ∈ Q4z (Q8h s) M:=by
    rw [show (Q4z (Q8h s) M).getD j []=(Q4z (Q8h s) M)[j] by simp [hj]]
    exact List.getElem_mem hj
   obtain ⟨-,h1,h2⟩:=Y0q _ _ _ e;exact ⟨by omega,h2⟩
theorem X3a (w:World) (v:Value) (s:Q0b) (hv:Q0g w v s) (hS:Q0w s) :
    Calls prog 137 #[v] w fun e w'=>∃ x,e=.returned x /\ Q1q w' x (Q1k s) /\ Ext w w':=by
 rw [Q9f];obtain ⟨a,b,rfl,h2⟩:=hv;obtain ⟨A,Uq,rfl,-,-,-⟩:=h2.ships.opened;obtain ⟨B,Wq,rfl,-,-,Q6⟩:=h2.members.opened;have H2:=hid h2;have HV:=hid hS;obtain ⟨T,hT⟩:∃ T,s.ships.length=T:=⟨_,rfl⟩;have HT:=hid hT;obtain ⟨M,hM⟩:∃ M,s.members.length=M:=⟨_,rfl⟩;have HM:=hid hM;obtain ⟨lim,Uj⟩:∃ k,s.limit=k:=⟨_,rfl⟩;have Y3:=hid Uj;have Mj:Hid (∀ W,Q2t W (.slice A T Uq) (.slice B M Wq) s -> Q0g W (.agg #[.int .i64 lim,.slice A T Uq,.slice B M Wq]) s):=hid (fun W h=>⟨_,_,by rw [Uj],h⟩)
 have LY:=hid (Z0g hM hS);have JY:Hid (0 < M /\ M <= 8):=hid (by rw [<- hM]; exact hS.some)
 rw [hT,hM] at H2;rw [hM] at Q6 ⊢;have sW:=hid Q6;rw [hT,Uj];clear h2 hT hM Uj hS Q6;obtain ⟨i0,hi,fq,mq,iq⟩:=info_parts info3;obtain ⟨j0,hj,jz0,jz1,jz2⟩:=info_parts J6m;go_enter func137,ntmps137;go_wp2_with fail;obtain ⟨W,Nq,k0,Sq,eW⟩:=Q1y w 25 #[.int .i64 lim,.slice A T Uq,.slice B M Wq];rw [Nq];clear Nq;have JJ:=Sq;obtain ⟨gs,bq⟩:∃ z,w.heap.size=z:=⟨_,rfl⟩;rw [bq] at k0 eW ⊢;have Nz:=hid bq;have KB:=hid k0;have Lr:=hid eW;clear k0 bq eW
 go_loopw [3,4] (fun o i wr=>∃ (k:Nat) (vs:Nat -> Value),k <= M /\ i=.int .i64 k /\ Y6y wr W.heap.size (Q4z (Q8h s) k) vs o /\ Ext W wr) (fun _ i _=>M - (intOf i).toNat)
 case atStart=>exact ⟨0,fun _=>undef,Nat.zero_le _,rfl,Y6y.nil _ _ _,Ext.refl _⟩
 case round =>
  obtain ⟨k,vs,hk,rfl,bq,Dq⟩:=hrel;obtain ⟨vo,rfl⟩:∃ z,z=u3:=⟨_,rfl⟩;have uy:=hid bq;have rq:=hid Dq;have KR:=hid (KB.out.ext Dq);clear bq Dq;obtain ⟨wq,rfl⟩:∃ Z,Z=wr:=⟨_,rfl⟩;have d0:=KR.out.cell 0;have d1:=KR.out.cell 1;have d2:=KR.out.cell 2;simp only [Go.Tw.gA,Go.Tw.gB,Go.Tw.gC] at d0 d1 d2
  by_cases Tq:k < M
  . skip
    have Lj:(k:Int) < (M:Int):=by omega
    have l9:=hid Tq;obtain ⟨G,hG⟩:∃ z,Q4z (Q8h s) k=z:=⟨_,rfl⟩;have GY:=hid hG;have E7:=hid (X4d (Q8h s) k);have N7:=hid (Y0q (Q8h s) k);rw [hG] at E7 N7 uy;clear hG;obtain ⟨n,hn⟩:∃ z,G.length=z:=⟨_,rfl⟩;have HN:=hid hn;obtain ⟨at0,GJ⟩:∃ z,Q9c (Q8h s) G k=z:=⟨_,rfl⟩;have fX:=hid GJ;have T3:Hid (at0 <= n):=hid (by rw [<- GJ,<- hn]; exact J4e _ _ _)
    obtain ⟨X3,c3,jK,fK⟩:=uy.out.own.shape;rw [Q1i,hn] at jK fK;subst jK;have Kr:=hid fK;clear hn GJ fK;have j9:Hid (n <= 8):=hid (by rw [<- HN.out]; have:=E7.out; have:=JY.out; have:=l9.out; omega)
    have UK:(n:Int)=(n:Int):=rfl;clear UK;go_wp2_with fail;clear d0 d1 d2
    go_loopw [5] (fun i wr=>∃ a:Nat,a <= at0 /\ i=.int .i64 a /\ Ext wq wr) (fun i _=>n - (intOf i).toNat)
    case atStart=>exact ⟨0,Nat.zero_le _,rfl,Ext.refl _⟩
    case round =>
     obtain ⟨a,ha,rfl,hxa⟩:=hrel;have Jr:=hid ha;have Lq:=hid hxa;clear hxa;obtain ⟨wz,rfl⟩:∃ Z,Z=wr:=⟨_,rfl⟩;go_upto_region 6 with fail
     go_cut [42] (fun x wx=>x=.bool (decide (a < at0)) /\ Ext wz wx)
     case first =>
      have Vq:=(Ext.refl wz).drew
      by_cases FY:a < n
      . skip
        have Qb:(a:Int) < (n:Int):=by omega
        have EY:decide ((a:Int) < (n:Int))=true:=decide_eq_true Qb;have Q4:a < G.length:=by rw [HN.out]; exact FY
        have tq:=uy.out.mem a Q4;obtain ⟨hne,-,N9⟩:=N7.out (G.getD a []) (by rw [show G.getD a []=G[a] by simp [Q4]]; exact List.getElem_mem Q4)
        obtain ⟨l,hl⟩:∃ z,G.getD a []=z:=⟨_,rfl⟩;have Dk:=Z7v (f:=Q8h s) (k:=k) (by rw [fX.out]; exact ha) Q4
        rw [fX.out,hl] at Dk;rw [hl] at tq hne N9;obtain ⟨m0,l1,rfl⟩:∃ m l1,l=m :: l1:=by cases l with | nil=>exact absurd rfl hne | cons m l1=>exact ⟨m,l1,rfl⟩
        have iG:m0 < M:=by have:=N9 m0 (List.mem_cons_self ..); have:=l9.out; omega
        rw [List.headD_cons] at Dk;have qw:(m0 :: l1).length <= 8:=by have:=(N7.out (G.getD a []) (by rw [show G.getD a []=G[a] by simp [Q4]]; exact List.getElem_mem Q4)).2.1; rw [hl] at this; have:=l9.out; have:=JY.out; omega
        obtain ⟨Xa,ca,P6,-⟩:=tq.shape;rw [List.length_map] at P6;have Jk:=tq.ints (by rw [List.length_map]; omega)
        rw [P6] at Jk;obtain ⟨nl,Qw⟩:∃ z,(m0 :: l1).length=z:=⟨_,rfl⟩;have Tn:0 < nl:=by rw [<- Qw]; exact Nat.succ_pos _
        have rf:(0:Int) < (nl:Int):=by omega
        obtain ⟨X1,nx1,e1,-,-,M8⟩:=Jk.opened;obtain ⟨bx0,ox,hX,Xq⟩:=M8 0 (by rw [List.length_map]; exact Nat.succ_pos _)
        injection e1 with e1 e2 e3;subst e1;subst e3;subst hX;clear e2;replace Xq:wq.cell? ⟨bx0,ox,none⟩=some (.int .i64 (m0:Int)):=Xq;obtain ⟨gB,capB,curB,eB,-,yg,-,-,-,KJ⟩:=Q5d uy.out.own (by rw [Q1i]; omega)
        rw [Q1i,HN.out] at eB;injection eB with f1 f2 f3;subst f1;subst f3;clear f2;have Az:=X1b Q4m yg KJ (i:=a) (j:=0) (by rw [Q1i]; exact Q4) (by decide)
        rw [Q4q] at Az;replace Az:wq.cell? ⟨gB,a * 2,none⟩=some (vs a):=Az;rw [P6,Qw] at Az;have qz:=hid Xq;have G8:=hid Az;have qq:=hid Dk;obtain ⟨bm,off,x0,y0,z0,hB,-,e00,e01,e02,e03,e04,d8,-,-,-⟩:=sW.out m0 iG;obtain ⟨bm2,off2,x1,y1,z1,n7,-,e10,e11,e12,e13,e14,L3,-,-,-⟩:=sW.out k l9.out;subst hB;injection n7 with n7;injection n7 with n7 Sn eK;subst n7;subst Sn;clear eK;obtain ⟨Y1,y1c,rfl,-,-,-⟩:=d8.opened;obtain ⟨Y2,y2c,rfl,-,-,-⟩:=L3.opened;obtain ⟨p1,N2⟩:∃ z,Q0c s.members m0=z:=⟨_,rfl⟩;obtain ⟨p2,F5⟩:∃ z,Q0c s.members k=z:=⟨_,rfl⟩;rw [N2] at e02 d8;rw [F5] at e12 L3;have Pb:Hid (decide (a < at0) = !decide (p1=p2)):=hid (by rw [qq.out,<- N2,<- F5]; rfl)
        obtain ⟨nc1,Y9⟩:∃ z,p1.length=z:=⟨_,rfl⟩;obtain ⟨nc2,U7⟩:∃ z,p2.length=z:=⟨_,rfl⟩;rw [Y9] at e02;rw [U7] at e12;have Gr:=hid Y9;have Fr:=hid U7;rw [Y9] at d8;rw [U7] at L3;have Fx:=hid e02;have Vk:=hid e12;have E8:=hid d8;have Uz:=hid L3;have Rn:((m0:Nat):Int) < (M:Int):=by omega
        have V3:Hid (Ext w wz):=hid (JJ.out.trans (rq.out.trans Lq.out));have KZ:=hid (KR.out.ext Lq.out);clear tq hne N9 hl Dk P6 Jk M8 yg KJ Az Xq e00 e01 e02 e03 e04 e10 e11 e12 e13 e14 d8 L3 N2 F5 Y9 U7 qw Q4 Qw;refine Flow.Q1h [.p,.p,.p,.p,.p,.p,.w,.p,.p,.p,.p,.w,.p,.w,.p,.p,.w,.p,.w,.p,.p,.p,.w,.w,.p,.p] [0,1,2,3,4,5,6,7,8,9,10,11,12,13,14,15,16,17,18,19,20,21,22,23,24,25] [[],[],[1],[0,2],[3],[4],[4,5],[4],[4],[4,7,8],[4,9],[4,10],[4,11],[4,12],[4,6,13],[4,14],[4,15],[4],[4,17],[4],[4,18,19],[4,20],[4,21],[4,16,22],[4,23],[4,24]]
         [.c 0 (.int .i64 (a:Int)),.c 1 (.slice (some ⟨gB,0,none⟩) n c3),.c 2 (.int .i64 ((n:Nat):Int)),.c 3 (.bool true),.c 4 (.bool true),.c 5 (.pointer (some ⟨gs,2,none⟩)),.c 6 (.slice (some ⟨bm,off,none⟩) M Wq),.c 7 (.slice (some ⟨gB,0,none⟩) n c3),.c 8 (.int .i64 (a:Int)),.c 9 (.pointer (some ⟨gB,a * 2,none⟩)),.c 10 (.pointer (some ⟨gB,a * 2,none⟩)),.c 11 (.slice (some ⟨bx0,ox,none⟩) nl ca),.c 12 (.pointer (some ⟨bx0,ox,none⟩)),.c 13 (.int .i64 (m0:Int)),.c 14 (.pointer (some ⟨bm,off + m0 * 5,none⟩)),.c 15 (.pointer (some ⟨bm,off + m0 * 5 + 2,none⟩)),.c 16 (.slice Y1 nc1 y1c),.c 17 (.pointer (some ⟨gs,2,none⟩)),.c 18 (.slice (some ⟨bm,off,none⟩) M Wq),.c 19 (.int .i64 (k:Int)),.c 20 (.pointer (some ⟨bm,off + k * 5,none⟩)),.c 21 (.pointer (some ⟨bm,off + k * 5 + 2,none⟩)),.c 22 (.slice Y2 nc2 y2c),.c 23 (.bool (decide (p1=p2))),.c 24 (.bool (!decide (p1=p2))),.c 25 (.bool (!decide (p1=p2)))]
         (by kernel_rfl) rfl (by kernel_rfl) ⟨?g0,?g1,?g2,?g3,?g4,?g5,?g6,?g7,?g8,?g9,?g10,?g11,?g12,?g13,?g14,?g15,?g16,?g17,?g18,?g19,?g20,?g21,?g22,?g23,?g24,?g25,trivial⟩ ?post
        case g0 | g1=>
         intro v w1 hx;intro bb hbb;subst hbb;refine ⟨_,fun w=>?_,rfl⟩;go_simp
        case g2 | g3 | g4 | g25=>
         intro v w1 hx;(repeat intro (zq:v _=_));intro bb hbb;subst hbb;refine ⟨_,fun w=>?_,rfl⟩;go_simp
        case g5 | g7 | g8 | g9 | g10 | g12 | g14 | g15 | g17 | g19 | g20 | g21 | g24=>
         intro v w1 hx;(repeat intro (zq:v _=_));intro bb hbb;refine Flow.Q0j (d:=21) rfl rfl fzb07 fzc07 ?_
         subst hbb;refine ⟨_,fun w=>?_,rfl⟩;go_simp
        case g6 | g11 | g13 | g16 | g18 | g22=>
         intro v w1 hx;(repeat intro (zq:v _=_));intro bb hbb;refine Flow.Q0j (d:=21) rfl rfl fzb07 fzc07 ?_
         subst hbb;have n0:w1.cell? ⟨gs,2,none⟩=some (.slice (some ⟨bm,off,none⟩) M Wq):=(KZ.out.ext (Vq.trans hx)).cell 2;have n1:w1.cell? ⟨gB,a * 2,none⟩=some (.slice (some ⟨bx0,ox,none⟩) nl ca):=(Lq.out.trans (Vq.trans hx)).cell G8.out;have n2:w1.cell? ⟨bx0,ox,none⟩=some (.int .i64 (m0:Int)):=(Lq.out.trans (Vq.trans hx)).cell qz.out;have n3:w1.cell? ⟨bm,off + m0 * 5 + 2,none⟩=some (.slice Y1 nc1 y1c):=(V3.out.trans (Vq.trans hx)).cell Fx.out;have n4:w1.cell? ⟨bm,off + k * 5 + 2,none⟩=some (.slice Y2 nc2 y2c):=(V3.out.trans (Vq.trans hx)).cell Vk.out;intro K hK;go_simp;exact hK _ _ (Ext.refl _) rfl
        case g23=>
         intro v w1 hx;(repeat intro (zq:v _=_));intro bb hbb;refine Flow.Q0j (d:=21) rfl rfl fzb07 fzc07 ?_
         subst hbb;intro K2 jq;go_simp;refine Q0d (Q3k w1 _ _ p1 p2 (E8.out.ext (V3.out.trans (Vq.trans hx))) (Uz.out.ext (V3.out.trans (Vq.trans hx)))) ?_;rintro e w2 ⟨rfl,Mq⟩;exact ⟨_,rfl,jq _ _ Mq rfl⟩
        case post =>
         intro v w1 hx;(iterate 26 intro (zq:v _=_));simp only [Flow.All,Flow.acts,Act.put];go_simp;have Zq:=Vq.trans hx;have aj:=hid Zq;clear hx Vq Zq;(repeat clear zq);go_wp2_with fail;go_meet;exact ⟨by rw [Pb.out],aj.out⟩
      . skip
        have Qb:¬ (a:Int) < (n:Int):=by omega
        have EY:decide ((a:Int) < (n:Int))=false:=decide_eq_false Qb;have Pb:Hid (decide (a < at0)=false):=hid (decide_eq_false (by have:=T3.out; omega))
        refine Flow.Q1h [.p,.p,.p,.p,.p,.p,.w,.p,.p,.p,.p,.w,.p,.w,.p,.p,.w,.p,.w,.p,.p,.p,.w,.w,.p,.p] [0,1,2,3,4,5,6,7,8,9,10,11,12,13,14,15,16,17,18,19,20,21,22,23,24,25] [[],[],[1],[0,2],[3],[4],[4,5],[4],[4],[4,7,8],[4,9],[4,10],[4,11],[4,12],[4,6,13],[4,14],[4,15],[4],[4,17],[4],[4,18,19],[4,20],[4,21],[4,16,22],[4,23],[4,24]]
         [.c 0 (.int .i64 (a:Int)),.c 1 (.slice X3 n c3),.c 2 (.int .i64 ((n:Nat):Int)),.c 3 (.bool false),.c 4 (.bool false),.c 5 (undef),.c 6 (undef),.c 7 (undef),.c 8 (undef),.c 9 (undef),.c 10 (undef),.c 11 (undef),.c 12 (undef),.c 13 (undef),.c 14 (undef),.c 15 (undef),.c 16 (undef),.c 17 (undef),.c 18 (undef),.c 19 (undef),.c 20 (undef),.c 21 (undef),.c 22 (undef),.c 23 (undef),.c 24 (undef),.c 25 (.bool false)]
         (by kernel_rfl) rfl (by kernel_rfl) ⟨?g0,?g1,?g2,?g3,?g4,?g5,?g6,?g7,?g8,?g9,?g10,?g11,?g12,?g13,?g14,?g15,?g16,?g17,?g18,?g19,?g20,?g21,?g22,?g23,?g24,?g25,trivial⟩ ?post
        case g0 | g1=>
         intro v w1 hx;intro bb hbb;subst hbb;refine ⟨_,fun w=>?_,rfl⟩;go_simp
        case g2 | g3 | g4 | g25=>
         intro v w1 hx;(repeat intro (zq:v _=_));intro bb hbb;subst hbb;refine ⟨_,fun w=>?_,rfl⟩;go_simp
        case g5 | g6 | g7 | g8 | g9 | g10 | g11 | g12 | g13 | g14 | g15 | g16 | g17 | g18 | g19 | g20 | g21 | g22 | g23 | g24=>
         intro v w1 hx;(repeat intro (zq:v _=_));intro bb hbb;exact Flow.Q1l (d:=21) rfl rfl fzb07 fzc07 rfl
        case post =>
         intro v w1 hx;(iterate 26 intro (zq:v _=_));simp only [Flow.All,Flow.acts,Act.put];go_simp;have Zq:=Vq.trans hx;have aj:=hid Zq;clear hx Vq Zq;(repeat clear zq);go_wp2_with fail;go_meet;exact ⟨by rw [Pb.out],aj.out⟩
     case rest =>
      obtain ⟨rfl,hcut⟩:=hcut;replace Lq:=hid (Lq.out.trans hcut);obtain ⟨wy,rfl⟩:∃ X,X=wc:=⟨_,rfl⟩;clear hcut
      by_cases Ob:a < at0
      . skip
        have hd:decide (a < at0)=true:=decide_eq_true Ob;have ay:Hid (wrap64 ((a:Int) + 1)=(a:Int) + 1):=hid (by have:=j9.out; have:=T3.out; unfold wrap64; omega)
        go_wp2;go_roundw
        case rel=>exact ⟨a + 1,by omega,by rw [ay.out]; go_num,Lq.out⟩
        case measure=>have:=T3.out; rw [ay.out]; simp [intOf]; omega
      . skip
        have hd:decide (a < at0)=false:=decide_eq_false Ob;have Qn:a=at0:=by omega
        subst Qn;clear Ob;have DY:=hid (uy.out.ext Lq.out);have qf:Hid (Ext W wy):=hid (rq.out.trans Lq.out);go_upto_if 48 with fail
        go_cut [3] (fun o wx=>∃ (G1:List (List Nat)) (vs1:Nat -> Value),Y6y wx W.heap.size G1 vs1 o /\ a < G1.length /\ G1.length <= 9 /\ (G1.getD a []).length <= 8 /\ G1.modify a (· ++ [k])=Q4z (Q8h s) (k + 1) /\ Ext W wx)
        case first =>
         by_cases pf:a=n
         . skip
           subst pf;have Yq:=DY.out.own;have eX:=j9.out;have Er:=HN.out;have G0:=qf.out;have dK:Hid ((G ++ [[]]).modify a (· ++ [k])=Q4z (Q8h s) (k + 1)):=hid (by have h:=Z1y (f:=Q8h s) (k:=k) (by rw [GY.out,fX.out,HN.out]); rw [GY.out,fX.out] at h; exact h)
           go_wp2_with (at_builtin; refine wpList_append_own _ rfl _ _ 119 rfl (W.heap.size) 153 j0 (.agg #[.slice none 0 0,.int .i64 0]) 2 32 underlying119 hj jz0 jz1 jz2 rfl (by decide) (.slice X3 a c3) _ _ rfl (World.ownsRow.alloc Yq _) ⟨wy.heap.size,0,none⟩ 1 1 [.slice none 0 0,.int .i64 0] rfl rfl ?_ ?_ ?_ ?_ ?_ ?_; exact X8j _ _ _; (focus (simp [Value.oneCell'])); (focus (rw [Q1i]; unfold maxLen; omega)); (focus (rw [Q1i]; omega)); (focus (have:=G0.size; simp at this ⊢; omega)); intro v' w1 Oq Pq _)
           have D8:=Z6z G0 DY.out.own (Nat.le_refl _) Pq;have L7:=Y6y.new (DY.out.ext (Ext.box wy _)) (Q1b.snoc (enc:=Q5m) (x:=((Value.slice none 0 0,(⟨[],0⟩:Grp)):Value × Grp)) Oq) Pq;go_meet;exact ⟨G ++ [[]],_,L7,by rw [List.length_append,List.length_singleton,HN.out]; omega,by rw [List.length_append,List.length_singleton,HN.out]; have:=j9.out; omega,by rw [<- HN.out]; simp,dK.out,D8⟩
         . skip
           have V7:(((a:Nat):Int) == (n:Int))=false:=by simp; omega
           have Dr:¬ ((a:Nat):Int)=(n:Int):=by omega
           have dK:Hid (G.modify a (· ++ [k])=Q4z (Q8h s) (k + 1)):=hid (by have h:=Z2x (f:=Q8h s) (k:=k) (by rw [GY.out,fX.out,HN.out]; exact pf); rw [GY.out,fX.out] at h; exact h)
           have Q4:a < G.length:=by rw [HN.out]; have:=T3.out; omega
           have Pn:(G.getD a []).length <= 8:=by have h1:=(N7.out (G.getD a []) (by rw [show G.getD a []=G[a] by simp [Q4]]; exact List.getElem_mem Q4)).2.1; have:=l9.out; have:=JY.out; omega
           clear Q4;go_wp2_with fail;go_meet;exact ⟨G,vs,DY.out,by rw [HN.out]; have:=T3.out; omega,by rw [HN.out]; have:=j9.out; omega,Pn,dK.out,qf.out⟩
        case rest =>
         obtain ⟨G1,vs1,O0,vg,Cr,Br,nf,hcut⟩:=hcut;obtain ⟨w5,rfl⟩:∃ Z,Z=wc:=⟨_,rfl⟩;have dK:=hid nf;have qX:=hid hcut;have Q0:=hid O0;have O6:=hid vg;have tq:=O0.mem a vg;obtain ⟨Xv,cv,P6,-⟩:=tq.shape;obtain ⟨X5,c5,Nb,-⟩:=O0.own.shape;rw [Q1i] at Nb;obtain ⟨gO,capO,curO,eO,mf,-,-,-,-,-⟩:=Q5d O0.own (by rw [Q1i]; omega)
         rw [Q1i] at eO;rw [eO] at Nb O0 Q0;injection Nb with e1 e2 e3;clear e1 e2 e3;obtain ⟨curB,yg,Mb,-⟩:∃ cs,Blk w5 gO 153 cs /\ w5.cell? ⟨gO,a * 2,none⟩=some (vs1 a) /\ True:=by
          obtain ⟨gB,capB,cur,eB,m9,ux,S4,Q6,pq,lg⟩:=Q5d O0.own (by rw [Q1i]; omega)
          injection eB with f1 f2 f3;injection f1 with f1;injection f1 with f1 f4;subst f1;have hc:=X1b Q4m ux lg (i:=a) (j:=0) (by rw [Q1i]; exact vg) (by decide)
          rw [Q4q] at hc;exact ⟨cur,ux,hc,trivial⟩
         rw [P6] at Mb tq;have On:=hid mf;obtain ⟨n1,Yv⟩:∃ z,G1.length=z:=⟨_,rfl⟩;rw [Yv] at Q0 eO;subst eO;have Nn:(a:Int) < (n1:Int):=by omega
         have Mv:((G1.getD a []).map Int.ofNat).length <= 4096:=by rw [List.length_map]; omega
         obtain ⟨L,hL⟩:∃ z,(G1.getD a []).map Int.ofNat=z:=⟨_,rfl⟩;have U0:=hid hL;rw [hL] at tq Mv Mb;obtain ⟨nv,Lb⟩:∃ z,L.length=z:=⟨_,rfl⟩;have vX:Hid (vs1 a=.slice Xv nv cv):=hid (by rw [P6,hL,Lb])
         rw [Lb] at tq Mb;clear O0 hcut nf vg P6 mf yg Yv hL Lb;have Kb:=hid tq;have Cq:=qX.out;have ay:Hid (wrap64 ((k:Int) + 1)=(k:Int) + 1):=hid (by have h1:=l9.out; have h2:=JY.out; unfold wrap64; omega)
         go_wp2_with (at_builtin; refine wpList_append_own_at _ rfl _ _ 22 rfl (W.heap.size) 3 i0 (.int .i64 0) 1 8 underlying22 hi fq mq iq rfl (by decide) (.slice Xv nv cv) _ _ rfl (World.ownsRow.alloc tq _) ⟨w5.heap.size,0,none⟩ 1 1 [.int .i64 (k:Int)] rfl rfl ?_ ?_ ?_ ?_ ?_ ?_; exact Q4d _ _ _; (focus (simp [Value.oneCell'])); (focus (unfold maxLen; omega)); (focus omega); (focus (have:=Cq.size; simp at this ⊢; omega)); intro v' w1 Oq Pq _ F2; obtain ⟨X9,v9c,lf,-⟩:=Q0n.shape (Q0n.snoc Oq); obtain ⟨n9,y9⟩:∃ z,(L ++ [(k:Int)]).length=z:=⟨_,rfl⟩; rw [y9] at lf; subst lf; have Jb:=hid F2; have bK:=hid Pq; have Gb:=hid (Q0n.snoc Oq); obtain ⟨cs9,Fj,kf,-⟩:=Y6y.grown (Q0.out.ext (Ext.box w5 _)) O6.out (by rw [vX.out]; exact Pq); rw [vX.out] at kf; have Mn:=Fj.frozen (a * 2); clear Fj F2 Pq Oq y9)
         have D8:=Q2d Cq Kb.out (Nat.le_refl _) bK.out;have FJ:=Y6y.add (k:=k) (Q0.out.ext (Ext.box w5 _)) O6.out (by rw [U0.out]; exact Gb.out) (by rw [vX.out]; exact bK.out) (by rw [vX.out]; exact Jb.out)
         rw [dK.out] at FJ;have Pw:=hid FJ;have Fb:=hid (Below.setCell D8 (p:=⟨gO,a * 2,none⟩) On.out (.slice X9 n9 v9c));clear FJ D8 kf Mn;go_roundw
         case rel=>exact ⟨k + 1,_,by have:=l9.out; omega,by rw [ay.out]; go_num,Pw.out,Fb.out⟩
         case measure=>have h1:=l9.out; rw [ay.out]; simp [intOf]; omega
  . skip
    have Lj:¬ (k:Int) < (M:Int):=by omega
    have Cj:k=M:=by omega
    subst Cj;obtain ⟨gB,capB,curB,eB,yg,-,-,-,-,-⟩:=Q5d uy.out.own (by rw [Q1i]; exact LY.out.1)
    rw [Q1i] at eB;subst eB;have Ln:=hid (And.intro LY.out.1 (And.intro (rfl:(Q4z (Q8h s) k).length=_) LY.out.2.1));have CY:=hid LY.out.2.2;have Kn:=hid uy.out.own;have Jn:=hid uy.out.mem;have kX:Hid (w.heap.size <= W.heap.size /\ gs < W.heap.size /\ W.heap.size <= gB):=hid ⟨JJ.out.size,KB.out.lt,yg⟩;have Eb:Hid (Ext w wq):=hid (JJ.out.trans rq.out);clear yg;go_upto_if 14 with fail
    repeat (first | exact J3z Eb H2 KR Mj HV HT HM Y3 Ln CY kX Kn Jn _ rfl rfl rfl | go_step)
def Q4e (b:Bool) (x:Value):Value:=if b then undef else x
def J5z (r:Rul):List Int × Bool:=(r.classes,r.close)
def Z1r (g:Grp):List Int × Int:=(g.members,g.weight)
def X3d (a b:List Rul):Bool:=decide (a.map J5z=b.map J5z)
def Q4w (a b:List Grp):Bool:=decide (a.map Z1r=b.map Z1r)
theorem Y0f {α β:Type} [Inhabited α] {f:α -> β} {a b:List α} (hl:a.length=b.length) (h:∀ j,j < a.length -> f (a.getD j default)=f (b.getD j default)):a.map f=b.map f:=by
 apply List.ext_getElem
 . simp [hl]
 . intro j h1 h2
   have Oy:j < a.length:=by simpa using h1
   have b6:j < b.length:=by simpa using h2
   have:=h j Oy;rw [Q0t _ Oy,Q0t _ b6] at this
   simpa using this
theorem X8z {α β:Type} [Inhabited α] {f:α -> β} {a b:List α} {j:Nat} (h1:j < a.length) (h2:j < b.length) (h:f (a.getD j default) ≠ f (b.getD j default)):a.map f ≠ b.map f:=by
 intro he
 apply h
 have:=congrArg (fun l=>l[j]?) he;simp only [List.getElem?_map,List.getElem?_eq_getElem h1,List.getElem?_eq_getElem h2,Option.map_some,Option.some.injEq] at this;rw [Q0t _ h1,Q0t _ h2]; exact this
theorem X2j (w:World) (u v:Value) (p q:List Rul) (hu:Q0m w u p) (hv:Q0m w v q) :
    Calls prog 48 #[u,v] w fun e w'=>e=.returned (.bool (X3d p q)) /\ Ext w w':=by
 obtain ⟨u,rfl,hu⟩:=hu;obtain ⟨v,rfl,hv⟩:=hv;obtain ⟨A,ca,rfl,Ov,-,hc⟩:=hu.opened;obtain ⟨B,cb,rfl,Nv,-,hd⟩:=hv.opened;have HC:=hid hc;have HD:=hid hd;obtain ⟨n,hn⟩:∃ n,p.length=n:=⟨_,rfl⟩;obtain ⟨m,hm⟩:∃ n,q.length=n:=⟨_,rfl⟩;have HN:=hid hn;have HM:=hid hm;rw [hn] at Ov HC ⊢;rw [hm] at Nv HD ⊢;clear hu hv hc hd hn hm;go_enter func48,ntmps48
 by_cases vj:n=m
 . have hI:((n:Int) != (m:Int))=false:=by simp [vj]
   subst vj;go_wp2_with fail;obtain ⟨W,Nq,k0,k1,Sq,eW⟩:=Q3p w 47 #[.slice A n ca] 47 #[.slice B n cb];rw [Nq];clear Nq;obtain ⟨gp,Yk⟩:∃ x,w.heap.size=x:=⟨_,rfl⟩;rw [Yk] at k0 k1 ⊢;have K0:=hid k0;have K1:=hid k1;clear k0 k1 Yk eW
   go_loopw [5] (fun i wr=>∃ k:Nat,k <= n /\ i=.int .i64 k /\ (∀ j,j < k -> J5z (p.getD j default)=J5z (q.getD j default)) /\ Ext W wr) (fun i _=>n - (intOf i).toNat)
   case atStart=>exact ⟨0,Nat.zero_le _,rfl,fun j h=>absurd h (Nat.not_lt_zero _),Ext.refl _⟩
   case round =>
    obtain ⟨k,hk,rfl,fw,lj⟩:=hrel;have C2:=hid fw;have Qg:=hid lj;have Dq:Ext w wr:=Sq.out.trans lj;have c0:wr.cell? ⟨gp,0,none⟩=some (.slice A n ca):=(K0.out.ext lj).cell 0;have dx:=hid (K0.out.ext lj);have Rk:=hid (K1.out.ext lj)
    by_cases Tq:k < n
    . have Lj:(k:Int) < n:=by omega
      obtain ⟨b1,o1,x,rfl,-,-,e1,Wk⟩:=HC.out k Tq;obtain ⟨b2,o2,y,rfl,-,-,f1,Xz⟩:=HD.out k Tq;replace e1:=Dq.cell e1;replace f1:=Dq.cell f1;obtain ⟨_,_,x0,he,-,e0,-,Wk⟩:=HC.out k Tq;cases he;obtain ⟨_,_,y0,he,-,f0,-,Xz⟩:=HD.out k Tq;cases he;replace e0:=Dq.cell e0;replace f0:=Dq.cell f0;have N6:=hid (fun (w1:World) (hx:Ext wr w1)=>Q3k w1 _ _ _ _ ((Wk.ext Dq).ext hx) ((Xz.ext Dq).ext hx));obtain ⟨X,Rq,rfl,-,-,-⟩:=Wk.opened;obtain ⟨Y,Jq,rfl,-,-,-⟩:=Xz.opened;have Oj:k < p.length:=by rw [HN.out]; exact Tq
      have Dw:k < q.length:=by rw [HM.out]; exact Tq
      have Zk:=hid (fun h=>X8z (f:=J5z) Oj Dw h);have D0:∀ (z:List Rul) j,J5z (z.getD j default)=(Q0k z j,Q3a z j):=fun z j=>rfl;rw [D0,D0] at Zk;have Y4:=hid D0;obtain ⟨cp,yk⟩:∃ c,Q0k p k=c:=⟨_,rfl⟩;obtain ⟨cq,Cw⟩:∃ c,Q0k q k=c:=⟨_,rfl⟩;obtain ⟨sp,bw⟩:∃ c,Q3a p k=c:=⟨_,rfl⟩;obtain ⟨sq,C0⟩:∃ c,Q3a q k=c:=⟨_,rfl⟩;rw [yk,Cw] at N6 Zk;rw [bw,C0] at Zk;rw [yk] at e0;rw [Cw] at f0;rw [bw] at e1;rw [C0] at f1;have j5:=hid yk;have i9:=hid Cw;have Bw:=hid bw;have aK:=hid C0;have Fx:=hid e0;have Vk:=hid e1;have f9:=hid f0;have zQ:=hid f1;obtain ⟨d,hd⟩:∃ d,(sp != sq)=d:=⟨_,rfl⟩;have o0:=hid hd;obtain ⟨e,he⟩:∃ d,decide (cp=cq)=d:=⟨_,rfl⟩;have ZJ:=hid he;rw [he] at N6;have Vq:=(Ext.refl wr).drew;clear fw lj Dq Wk Xz yk Cw bw C0 D0 Oj Dw e0 e1 f0 f1 hd he;obtain ⟨wq,rfl⟩:∃ Z,Z=wr:=⟨_,rfl⟩;go_wp2_with fail;refine Flow.Q1h [.p,.w,.p,.p,.p,.w,.p,.w,.p,.p,.p,.w,.p,.p,.p,.w,.p,.p,.p,.w,.p,.w,.p,.p,.p,.w,.w,.p,.p] [0,1,2,3,4,5,6,7,8,9,10,11,12,13,14,15,16,17,18,19,20,21,22,23,24,25,26,27,28] [[],[0],[],[1,2],[3],[4],[],[6],[],[7,8],[9],[10],[5,11],[12],[13],[13,14],[13],[13,15,16],[13,17],[13,18],[13],[13,20],[13],[13,21,22],[13,23],[13,24],[13,19,25],[13,26],[13,27]]
       [.c 0 (.pointer (some ⟨gp,0,none⟩)),.c 1 (.slice (some ⟨b1,o1,none⟩) n ca),.c 2 (.int .i64 (k:Int)),.c 3 (.pointer (some ⟨b1,o1 + k * 2,none⟩)),.c 4 (.pointer (some ⟨b1,o1 + k * 2 + 1,none⟩)),.c 5 (.bool sp),.c 6 (.pointer (some ⟨gp + 1,0,none⟩)),.c 7 (.slice (some ⟨b2,o2,none⟩) n cb),.c 8 (.int .i64 (k:Int)),.c 9 (.pointer (some ⟨b2,o2 + k * 2,none⟩)),.c 10 (.pointer (some ⟨b2,o2 + k * 2 + 1,none⟩)),.c 11 (.bool sq),.c 12 (.bool d),.c 13 (.bool d),.c 14 (Q4e d (.pointer (some ⟨gp,0,none⟩))),.c 15 (Q4e d (.slice (some ⟨b1,o1,none⟩) n ca)),.c 16 (Q4e d (.int .i64 (k:Int))),.c 17 (Q4e d (.pointer (some ⟨b1,o1 + k * 2,none⟩))),.c 18 (Q4e d (.pointer (some ⟨b1,o1 + k * 2,none⟩))),.c 19 (Q4e d (.slice X cp.length Rq)),.c 20 (Q4e d (.pointer (some ⟨gp + 1,0,none⟩))),.c 21 (Q4e d (.slice (some ⟨b2,o2,none⟩) n cb)),.c 22 (Q4e d (.int .i64 (k:Int))),.c 23 (Q4e d (.pointer (some ⟨b2,o2 + k * 2,none⟩))),.c 24 (Q4e d (.pointer (some ⟨b2,o2 + k * 2,none⟩))),.c 25 (Q4e d (.slice Y cq.length Jq)),.c 26 (Q4e d (.bool e)),.c 27 (Q4e d (.bool (!e))),.c 28 (.bool (d || !e))]
       (by kernel_rfl) rfl (by kernel_rfl) ⟨?g0,?g1,?g2,?g3,?g4,?g5,?g6,?g7,?g8,?g9,?g10,?g11,?g12,?g13,?g14,?g15,?g16,?g17,?g18,?g19,?g20,?g21,?g22,?g23,?g24,?g25,?g26,?g27,?g28,trivial⟩ ?post
      case g0 | g2 | g6 | g8=>
       intro v w1 hx;intro bb hbb;subst hbb;refine ⟨_,fun w=>?_,rfl⟩;go_simp
      case g1 | g7=>
       intro v w1 hx;(repeat intro (zq:v _=_));intro bb hbb;subst hbb;have n0:w1.cell? ⟨gp,0,none⟩=some (.slice (some ⟨b1,o1,none⟩) n ca):=(dx.out.ext (Vq.trans hx)).cell 0;have n1:w1.cell? ⟨gp + 1,0,none⟩=some (.slice (some ⟨b2,o2,none⟩) n cb):=(Rk.out.ext (Vq.trans hx)).cell 0;intro K hK;go_simp;exact hK _ _ (Ext.refl _) rfl
      case g3 | g4 | g9 | g10 | g13=>
       intro v w1 hx;(repeat intro (zq:v _=_));intro bb hbb;subst hbb;refine ⟨_,fun w=>?_,rfl⟩;go_simp
      case g5=>
       intro v w1 hx;(repeat intro (zq:v _=_));intro bb hbb;subst hbb;have n0:=(Vq.trans hx).cell Vk.out;intro K hK;go_simp;exact hK _ _ (Ext.refl _) rfl
      case g11=>
       intro v w1 hx;(repeat intro (zq:v _=_));intro bb hbb;subst hbb;have n0:=(Vq.trans hx).cell zQ.out;intro K hK;go_simp;exact hK _ _ (Ext.refl _) rfl
      case g12=>
       intro v w1 hx;(repeat intro (zq:v _=_));intro bb hbb;subst hbb;refine ⟨.bool d,fun w=>?_,rfl⟩;go_simp
       (first | exact o0.out | (rw [<- o0.out]; rfl) | (rw [<- o0.out]; cases sp <;> cases sq <;> rfl))
      case g14 | g16 | g20 | g22=>
       intro v w1 hx;(repeat intro (zq:v _=_));intro bb hbb;cases d with
       | true=>exact Flow.Q1l (d:=33) rfl rfl (by rw [hbb]; simp only [size_put]; exact (by decide:33 < 49)) (by rw [hbb]; dsimp only; (try simp (discharger:=decide) only [eval_put_ne]); rw [Q0a (by simp only [size_put]; exact (by decide:33 < 49))]; assumption) rfl
       | false =>
         refine Flow.Q0j (d:=33) rfl rfl (by rw [hbb]; simp only [size_put]; exact (by decide:33 < 49)) (by rw [hbb]; dsimp only; (try simp (discharger:=decide) only [eval_put_ne]); rw [Q0a (by simp only [size_put]; exact (by decide:33 < 49))]; assumption) ?_
         subst hbb;refine ⟨_,fun w=>?_,rfl⟩;go_simp
      case g15=>
       intro v w1 hx (q13:v 13=_) (q14:v 14=Q4e d (.pointer (some ⟨gp,0,none⟩)));intro bb hbb;have n0:w1.cell? ⟨gp,0,none⟩=some (.slice (some ⟨b1,o1,none⟩) n ca):=(dx.out.ext (Vq.trans hx)).cell 0;cases d with
       | true=>exact Flow.Q1l (d:=33) rfl rfl (by rw [hbb]; simp only [size_put]; exact (by decide:33 < 49)) (by rw [hbb]; dsimp only; (try simp (discharger:=decide) only [eval_put_ne]); rw [Q0a (by simp only [size_put]; exact (by decide:33 < 49))]; exact q13) rfl
       | false =>
         replace q14:v 14=.pointer (some ⟨gp,0,none⟩):=q14;refine Flow.Q0j (d:=33) rfl rfl (by rw [hbb]; simp only [size_put]; exact (by decide:33 < 49)) (by rw [hbb]; dsimp only; (try simp (discharger:=decide) only [eval_put_ne]); rw [Q0a (by simp only [size_put]; exact (by decide:33 < 49))]; exact q13) ?_
         subst hbb;intro K hK;go_simp;exact hK _ _ (Ext.refl _) rfl
      case g17=>
       intro v w1 hx (q13:v 13=_) (q15:v 15=Q4e d (.slice (some ⟨b1,o1,none⟩) n ca)) (q16:v 16=Q4e d (.int .i64 (k:Int)));intro bb hbb;cases d with
       | true=>exact Flow.Q1l (d:=33) rfl rfl (by rw [hbb]; simp only [size_put]; exact (by decide:33 < 49)) (by rw [hbb]; dsimp only; (try simp (discharger:=decide) only [eval_put_ne]); rw [Q0a (by simp only [size_put]; exact (by decide:33 < 49))]; exact q13) rfl
       | false =>
         replace q15:v 15=.slice (some ⟨b1,o1,none⟩) n ca:=q15;replace q16:v 16=.int .i64 (k:Int):=q16;refine Flow.Q0j (d:=33) rfl rfl (by rw [hbb]; simp only [size_put]; exact (by decide:33 < 49)) (by rw [hbb]; dsimp only; (try simp (discharger:=decide) only [eval_put_ne]); rw [Q0a (by simp only [size_put]; exact (by decide:33 < 49))]; exact q13) ?_
         subst hbb;refine ⟨_,fun w=>?_,rfl⟩;go_simp
      case g18=>
       intro v w1 hx (q13:v 13=_) (q17:v 17=Q4e d (.pointer (some ⟨b1,o1 + k * 2,none⟩)));intro bb hbb;cases d with
       | true=>exact Flow.Q1l (d:=33) rfl rfl (by rw [hbb]; simp only [size_put]; exact (by decide:33 < 49)) (by rw [hbb]; dsimp only; (try simp (discharger:=decide) only [eval_put_ne]); rw [Q0a (by simp only [size_put]; exact (by decide:33 < 49))]; exact q13) rfl
       | false =>
         replace q17:v 17=.pointer (some ⟨b1,o1 + k * 2,none⟩):=q17;refine Flow.Q0j (d:=33) rfl rfl (by rw [hbb]; simp only [size_put]; exact (by decide:33 < 49)) (by rw [hbb]; dsimp only; (try simp (discharger:=decide) only [eval_put_ne]); rw [Q0a (by simp only [size_put]; exact (by decide:33 < 49))]; exact q13) ?_
         subst hbb;refine ⟨_,fun w=>?_,rfl⟩;go_simp
      case g19=>
       intro v w1 hx (q13:v 13=_) (q18:v 18=Q4e d (.pointer (some ⟨b1,o1 + k * 2,none⟩)));intro bb hbb;have n0:=(Vq.trans hx).cell Fx.out;cases d with
       | true=>exact Flow.Q1l (d:=33) rfl rfl (by rw [hbb]; simp only [size_put]; exact (by decide:33 < 49)) (by rw [hbb]; dsimp only; (try simp (discharger:=decide) only [eval_put_ne]); rw [Q0a (by simp only [size_put]; exact (by decide:33 < 49))]; exact q13) rfl
       | false =>
         replace q18:v 18=.pointer (some ⟨b1,o1 + k * 2,none⟩):=q18;refine Flow.Q0j (d:=33) rfl rfl (by rw [hbb]; simp only [size_put]; exact (by decide:33 < 49)) (by rw [hbb]; dsimp only; (try simp (discharger:=decide) only [eval_put_ne]); rw [Q0a (by simp only [size_put]; exact (by decide:33 < 49))]; exact q13) ?_
         subst hbb;intro K hK;go_simp;exact hK _ _ (Ext.refl _) rfl
      case g21=>
       intro v w1 hx (q13:v 13=_) (q20:v 20=Q4e d (.pointer (some ⟨gp + 1,0,none⟩)));intro bb hbb;have n0:w1.cell? ⟨gp + 1,0,none⟩=some (.slice (some ⟨b2,o2,none⟩) n cb):=(Rk.out.ext (Vq.trans hx)).cell 0;cases d with
       | true=>exact Flow.Q1l (d:=33) rfl rfl (by rw [hbb]; simp only [size_put]; exact (by decide:33 < 49)) (by rw [hbb]; dsimp only; (try simp (discharger:=decide) only [eval_put_ne]); rw [Q0a (by simp only [size_put]; exact (by decide:33 < 49))]; exact q13) rfl
       | false =>
         replace q20:v 20=.pointer (some ⟨gp + 1,0,none⟩):=q20;refine Flow.Q0j (d:=33) rfl rfl (by rw [hbb]; simp only [size_put]; exact (by decide:33 < 49)) (by rw [hbb]; dsimp only; (try simp (discharger:=decide) only [eval_put_ne]); rw [Q0a (by simp only [size_put]; exact (by decide:33 < 49))]; exact q13) ?_
         subst hbb;intro K hK;go_simp;exact hK _ _ (Ext.refl _) rfl
      case g23=>
       intro v w1 hx (q13:v 13=_) (q21:v 21=Q4e d (.slice (some ⟨b2,o2,none⟩) n cb)) (q22:v 22=Q4e d (.int .i64 (k:Int)));intro bb hbb;cases d with
       | true=>exact Flow.Q1l (d:=33) rfl rfl (by rw [hbb]; simp only [size_put]; exact (by decide:33 < 49)) (by rw [hbb]; dsimp only; (try simp (discharger:=decide) only [eval_put_ne]); rw [Q0a (by simp only [size_put]; exact (by decide:33 < 49))]; exact q13) rfl
       | false =>
         replace q21:v 21=.slice (some ⟨b2,o2,none⟩) n cb:=q21;replace q22:v 22=.int .i64 (k:Int):=q22;refine Flow.Q0j (d:=33) rfl rfl (by rw [hbb]; simp only [size_put]; exact (by decide:33 < 49)) (by rw [hbb]; dsimp only; (try simp (discharger:=decide) only [eval_put_ne]); rw [Q0a (by simp only [size_put]; exact (by decide:33 < 49))]; exact q13) ?_
         subst hbb;refine ⟨_,fun w=>?_,rfl⟩;go_simp
      case g24=>
       intro v w1 hx (q13:v 13=_) (q23:v 23=Q4e d (.pointer (some ⟨b2,o2 + k * 2,none⟩)));intro bb hbb;cases d with
       | true=>exact Flow.Q1l (d:=33) rfl rfl (by rw [hbb]; simp only [size_put]; exact (by decide:33 < 49)) (by rw [hbb]; dsimp only; (try simp (discharger:=decide) only [eval_put_ne]); rw [Q0a (by simp only [size_put]; exact (by decide:33 < 49))]; exact q13) rfl
       | false =>
         replace q23:v 23=.pointer (some ⟨b2,o2 + k * 2,none⟩):=q23;refine Flow.Q0j (d:=33) rfl rfl (by rw [hbb]; simp only [size_put]; exact (by decide:33 < 49)) (by rw [hbb]; dsimp only; (try simp (discharger:=decide) only [eval_put_ne]); rw [Q0a (by simp only [size_put]; exact (by decide:33 < 49))]; exact q13) ?_
         subst hbb;refine ⟨_,fun w=>?_,rfl⟩;go_simp
      case g25=>
       intro v w1 hx (q13:v 13=_) (q24:v 24=Q4e d (.pointer (some ⟨b2,o2 + k * 2,none⟩)));intro bb hbb;have n0:=(Vq.trans hx).cell f9.out;cases d with
       | true=>exact Flow.Q1l (d:=33) rfl rfl (by rw [hbb]; simp only [size_put]; exact (by decide:33 < 49)) (by rw [hbb]; dsimp only; (try simp (discharger:=decide) only [eval_put_ne]); rw [Q0a (by simp only [size_put]; exact (by decide:33 < 49))]; exact q13) rfl
       | false =>
         replace q24:v 24=.pointer (some ⟨b2,o2 + k * 2,none⟩):=q24;refine Flow.Q0j (d:=33) rfl rfl (by rw [hbb]; simp only [size_put]; exact (by decide:33 < 49)) (by rw [hbb]; dsimp only; (try simp (discharger:=decide) only [eval_put_ne]); rw [Q0a (by simp only [size_put]; exact (by decide:33 < 49))]; exact q13) ?_
         subst hbb;intro K hK;go_simp;exact hK _ _ (Ext.refl _) rfl
      case g26=>
       intro v w1 hx (q13:v 13=_) (q19:v 19=Q4e d (.slice X cp.length Rq)) (q25:v 25=Q4e d (.slice Y cq.length Jq));intro bb hbb;cases d with
       | true=>exact Flow.Q1l (d:=33) rfl rfl (by rw [hbb]; simp only [size_put]; exact (by decide:33 < 49)) (by rw [hbb]; dsimp only; (try simp (discharger:=decide) only [eval_put_ne]); rw [Q0a (by simp only [size_put]; exact (by decide:33 < 49))]; exact q13) rfl
       | false =>
         replace q19:v 19=.slice X cp.length Rq:=q19;replace q25:v 25=.slice Y cq.length Jq:=q25;refine Flow.Q0j (d:=33) rfl rfl (by rw [hbb]; simp only [size_put]; exact (by decide:33 < 49)) (by rw [hbb]; dsimp only; (try simp (discharger:=decide) only [eval_put_ne]); rw [Q0a (by simp only [size_put]; exact (by decide:33 < 49))]; exact q13) ?_
         subst hbb;intro K hK;go_simp;refine Q0d (N6.out w1 (Vq.trans hx)) ?_;rintro e w2 ⟨rfl,Mq⟩;exact ⟨_,rfl,hK _ _ Mq rfl⟩
      case g27=>
       intro v w1 hx (q13:v 13=_) (q26:v 26=Q4e d (.bool e));intro bb hbb;cases d with
       | true=>exact Flow.Q1l (d:=33) rfl rfl (by rw [hbb]; simp only [size_put]; exact (by decide:33 < 49)) (by rw [hbb]; dsimp only; (try simp (discharger:=decide) only [eval_put_ne]); rw [Q0a (by simp only [size_put]; exact (by decide:33 < 49))]; exact q13) rfl
       | false =>
         replace q26:v 26=.bool e:=q26;refine Flow.Q0j (d:=33) rfl rfl (by rw [hbb]; simp only [size_put]; exact (by decide:33 < 49)) (by rw [hbb]; dsimp only; (try simp (discharger:=decide) only [eval_put_ne]); rw [Q0a (by simp only [size_put]; exact (by decide:33 < 49))]; exact q13) ?_
         subst hbb;refine ⟨_,fun w=>?_,rfl⟩;go_simp
      case g28=>
       intro v w1 hx (q13:v 13=_) (q27:v 27=Q4e d (.bool (!e)));intro bb hbb;subst hbb;refine ⟨.bool (d || !e),fun w=>?_,rfl⟩
       cases d with
       | true=>go_simp
       | false=>go_simp; rfl
      case post =>
       intro v w1 hx;(iterate 14 intro (zq:v _=_));intro (q14:v 14=Q4e d (.pointer (some ⟨gp,0,none⟩))) (q15:v 15=Q4e d (.slice (some ⟨b1,o1,none⟩) n ca)) (q16:v 16=Q4e d (.int .i64 (k:Int))) (q17:v 17=Q4e d (.pointer (some ⟨b1,o1 + k * 2,none⟩))) (q18:v 18=Q4e d (.pointer (some ⟨b1,o1 + k * 2,none⟩))) (q19:v 19=Q4e d (.slice X cp.length Rq)) (q20:v 20=Q4e d (.pointer (some ⟨gp + 1,0,none⟩))) (q21:v 21=Q4e d (.slice (some ⟨b2,o2,none⟩) n cb)) (q22:v 22=Q4e d (.int .i64 (k:Int))) (q23:v 23=Q4e d (.pointer (some ⟨b2,o2 + k * 2,none⟩))) (q24:v 24=Q4e d (.pointer (some ⟨b2,o2 + k * 2,none⟩))) (q25:v 25=Q4e d (.slice Y cq.length Jq)) (q26:v 26=Q4e d (.bool e)) (q27:v 27=Q4e d (.bool (!e)));(iterate 1 intro (zq:v _=_));simp only [Flow.All,Flow.acts,Act.put];go_simp;have Yx:=hid (Qg.out.trans (Vq.trans hx));clear hx Vq q14 q15 q16 q17 q18 q19 q20 q21 q22 q23 q24 q25 q26 q27;(repeat clear zq);obtain ⟨f,hf⟩:∃ f,(d || !e)=f:=⟨_,rfl⟩
       rw [hf];have HF:=hid hf;clear hf;cases f with
       | true =>
         have hne:X3d p q=false:=by
          refine decide_eq_false (Zk.out fun h=>?_);injection h with h1 h2;have h3:=HF.out;rw [<- o0.out,<- ZJ.out,h1,h2] at h3;simp at h3
         have HR:=hid hne;clear hne;go_wp2;go_ret;exact ⟨by rw [HR.out]; rfl,Sq.out.trans Yx.out⟩
       | false =>
         have Cj:J5z (p.getD k default)=J5z (q.getD k default):=by
          rw [Y4.out,Y4.out,j5.out,i9.out,Bw.out,aK.out];have h3:=HF.out;rw [<- o0.out,<- ZJ.out] at h3;simp at h3;rw [h3.1,h3.2]
         have az:=hid Cj;clear Cj;go_wp2;go_roundw
         case rel=>exact ⟨k + 1,by omega,by go_num,(fun j hj=>by
          rcases Nat.lt_or_ge j k with h | h
          . exact C2.out j h
          . have e:j=k:=by omega
            subst e; exact az.out),Yx.out⟩
         case measure=>simp [intOf]; omega
    . have Lj:¬ (k:Int) < n:=by omega
      have nj:k=n:=by omega
      have hr:X3d p q=true:=decide_eq_true (Y0f (by rw [HN.out,HM.out]) (by rw [HN.out,<- nj]; exact fw))
      have HR:=hid hr;clear fw hr;go_wp2;go_ret;exact ⟨by rw [HR.out]; rfl,Dq⟩
 . have hI:((n:Int) != (m:Int))=true:=by simp; omega
   have hr:X3d p q=false:=decide_eq_false fun h=>vj (by have:=congrArg List.length h; simpa [HN.out,HM.out] using this)
   have HR:=hid hr;clear vj hr;go_wp2;go_ret;exact ⟨by rw [HR.out]; rfl,by first | exact (Ext.box _ _).trans (Ext.box _ _) | exact Ext.refl _⟩
theorem Q8i (w:World) (u v:Value) (p q:List Grp) (hu:Q1q w u p) (hv:Q1q w v q) :
    Calls prog 74 #[u,v] w fun e w'=>e=.returned (.bool (Q4w p q)) /\ Ext w w':=by
 obtain ⟨A,ca,rfl,Ov,-,hc⟩:=hu.opened;obtain ⟨B,cb,rfl,Nv,-,hd⟩:=hv.opened;have HC:=hid hc;have HD:=hid hd;obtain ⟨n,hn⟩:∃ n,p.length=n:=⟨_,rfl⟩;obtain ⟨m,hm⟩:∃ n,q.length=n:=⟨_,rfl⟩;have HN:=hid hn;have HM:=hid hm;rw [hn] at Ov HC ⊢;rw [hm] at Nv HD ⊢;clear hu hv hc hd hn hm;go_enter func74,ntmps74
 by_cases vj:n=m
 . have hI:((n:Int) != (m:Int))=false:=by simp [vj]
   subst vj;go_wp2_with fail;have Sq:=hid (Ext.refl w)
   go_loopw [5] (fun i wr=>∃ k:Nat,k <= n /\ i=.int .i64 k /\ (∀ j,j < k -> Z1r (p.getD j default)=Z1r (q.getD j default)) /\ Ext w wr) (fun i _=>n - (intOf i).toNat)
   case atStart=>exact ⟨0,Nat.zero_le _,rfl,fun j h=>absurd h (Nat.not_lt_zero _),Ext.refl _⟩
   case round =>
    obtain ⟨k,hk,rfl,fw,lj⟩:=hrel;have C2:=hid fw;have Qg:=hid lj;have Dq:Ext w wr:=Sq.out.trans lj
    by_cases Tq:k < n
    . have Lj:(k:Int) < n:=by omega
      obtain ⟨b1,o1,x,rfl,-,-,e1,Wk⟩:=HC.out k Tq;obtain ⟨b2,o2,y,rfl,-,-,f1,Xz⟩:=HD.out k Tq;replace e1:=Dq.cell e1;replace f1:=Dq.cell f1;obtain ⟨_,_,x0,he,-,e0,-,Wk⟩:=HC.out k Tq;cases he;obtain ⟨_,_,y0,he,-,f0,-,Xz⟩:=HD.out k Tq;cases he;replace e0:=Dq.cell e0;replace f0:=Dq.cell f0;have N6:=hid (fun (w1:World) (hx:Ext wr w1)=>Q3k w1 _ _ _ _ ((Wk.ext Dq).ext hx) ((Xz.ext Dq).ext hx));obtain ⟨X,Rq,rfl,-,-,-⟩:=Wk.opened;obtain ⟨Y,Jq,rfl,-,-,-⟩:=Xz.opened;have Oj:k < p.length:=by rw [HN.out]; exact Tq
      have Dw:k < q.length:=by rw [HM.out]; exact Tq
      have Zk:=hid (fun h=>X8z (f:=Z1r) Oj Dw h);have D0:∀ (z:List Grp) j,Z1r (z.getD j default)=(Q1w z j,Q3n z j):=fun z j=>rfl;rw [D0,D0] at Zk;have Y4:=hid D0;obtain ⟨cp,yk⟩:∃ c,Q1w p k=c:=⟨_,rfl⟩;obtain ⟨cq,Cw⟩:∃ c,Q1w q k=c:=⟨_,rfl⟩;obtain ⟨sp,bw⟩:∃ c,Q3n p k=c:=⟨_,rfl⟩;obtain ⟨sq,C0⟩:∃ c,Q3n q k=c:=⟨_,rfl⟩;rw [yk,Cw] at N6 Zk;rw [bw,C0] at Zk;rw [yk] at e0;rw [Cw] at f0;rw [bw] at e1;rw [C0] at f1;have j5:=hid yk;have i9:=hid Cw;have Bw:=hid bw;have aK:=hid C0;have Fx:=hid e0;have Vk:=hid e1;have f9:=hid f0;have zQ:=hid f1;obtain ⟨d,hd⟩:∃ d,(sp != sq)=d:=⟨_,rfl⟩;have o0:=hid hd;obtain ⟨e,he⟩:∃ d,decide (cp=cq)=d:=⟨_,rfl⟩;have ZJ:=hid he;rw [he] at N6;have Vq:=(Ext.refl wr).drew;clear fw lj Dq Wk Xz yk Cw bw C0 D0 Oj Dw e0 e1 f0 f1 hd he;obtain ⟨wq,rfl⟩:∃ Z,Z=wr:=⟨_,rfl⟩;go_wp2_with fail;refine Flow.Q1h [.p,.p,.p,.p,.w,.p,.p,.p,.p,.w,.p,.p,.p,.p,.p,.p,.w,.p,.p,.p,.p,.w,.w,.p,.p] [0,1,2,3,4,5,6,7,8,9,10,11,12,13,14,15,16,17,18,19,20,21,22,23,24] [[],[],[0,1],[2],[3],[],[],[5,6],[7],[8],[4,9],[10],[11],[11],[11,12,13],[11,14],[11,15],[11],[11],[11,17,18],[11,19],[11,20],[11,16,21],[11,22],[11,23]]
       [.c 0 (.slice (some ⟨b1,o1,none⟩) n ca),.c 1 (.int .i64 (k:Int)),.c 2 (.pointer (some ⟨b1,o1 + k * 2,none⟩)),.c 3 (.pointer (some ⟨b1,o1 + k * 2 + 1,none⟩)),.c 4 (.int .i64 sp),.c 5 (.slice (some ⟨b2,o2,none⟩) n cb),.c 6 (.int .i64 (k:Int)),.c 7 (.pointer (some ⟨b2,o2 + k * 2,none⟩)),.c 8 (.pointer (some ⟨b2,o2 + k * 2 + 1,none⟩)),.c 9 (.int .i64 sq),.c 10 (.bool d),.c 11 (.bool d),.c 12 (Q4e d (.slice (some ⟨b1,o1,none⟩) n ca)),.c 13 (Q4e d (.int .i64 (k:Int))),.c 14 (Q4e d (.pointer (some ⟨b1,o1 + k * 2,none⟩))),.c 15 (Q4e d (.pointer (some ⟨b1,o1 + k * 2,none⟩))),.c 16 (Q4e d (.slice X cp.length Rq)),.c 17 (Q4e d (.slice (some ⟨b2,o2,none⟩) n cb)),.c 18 (Q4e d (.int .i64 (k:Int))),.c 19 (Q4e d (.pointer (some ⟨b2,o2 + k * 2,none⟩))),.c 20 (Q4e d (.pointer (some ⟨b2,o2 + k * 2,none⟩))),.c 21 (Q4e d (.slice Y cq.length Jq)),.c 22 (Q4e d (.bool e)),.c 23 (Q4e d (.bool (!e))),.c 24 (.bool (d || !e))]
       (by kernel_rfl) rfl (by kernel_rfl) ⟨?g0,?g1,?g2,?g3,?g4,?g5,?g6,?g7,?g8,?g9,?g10,?g11,?g12,?g13,?g14,?g15,?g16,?g17,?g18,?g19,?g20,?g21,?g22,?g23,?g24,trivial⟩ ?post
      case g0 | g1 | g5 | g6=>
       intro v w1 hx;intro bb hbb;subst hbb;refine ⟨_,fun w=>?_,rfl⟩;go_simp
      case g2 | g3 | g7 | g8 | g11=>
       intro v w1 hx;(repeat intro (zq:v _=_));intro bb hbb;subst hbb;refine ⟨_,fun w=>?_,rfl⟩;go_simp
      case g4=>
       intro v w1 hx;(repeat intro (zq:v _=_));intro bb hbb;subst hbb;have n0:=(Vq.trans hx).cell Vk.out;intro K hK;go_simp;exact hK _ _ (Ext.refl _) rfl
      case g9=>
       intro v w1 hx;(repeat intro (zq:v _=_));intro bb hbb;subst hbb;have n0:=(Vq.trans hx).cell zQ.out;intro K hK;go_simp;exact hK _ _ (Ext.refl _) rfl
      case g10=>
       intro v w1 hx;(repeat intro (zq:v _=_));intro bb hbb;subst hbb;refine ⟨.bool d,fun w=>?_,rfl⟩;go_simp
       (first | exact o0.out | (rw [<- o0.out]; rfl))
      case g12 | g13 | g17 | g18=>
       intro v w1 hx;(repeat intro (zq:v _=_));intro bb hbb;cases d with
       | true=>exact Flow.Q1l (d:=28) rfl rfl (by rw [hbb]; simp only [size_put]; exact (by decide:28 < 42)) (by rw [hbb]; dsimp only; (try simp (discharger:=decide) only [eval_put_ne]); rw [Q0a (by simp only [size_put]; exact (by decide:28 < 42))]; assumption) rfl
       | false =>
         refine Flow.Q0j (d:=28) rfl rfl (by rw [hbb]; simp only [size_put]; exact (by decide:28 < 42)) (by rw [hbb]; dsimp only; (try simp (discharger:=decide) only [eval_put_ne]); rw [Q0a (by simp only [size_put]; exact (by decide:28 < 42))]; assumption) ?_
         subst hbb;refine ⟨_,fun w=>?_,rfl⟩;go_simp
      case g14=>
       intro v w1 hx (q11:v 11=_) (q12:v 12=Q4e d (.slice (some ⟨b1,o1,none⟩) n ca)) (q13:v 13=Q4e d (.int .i64 (k:Int)));intro bb hbb;cases d with
       | true=>exact Flow.Q1l (d:=28) rfl rfl (by rw [hbb]; simp only [size_put]; exact (by decide:28 < 42)) (by rw [hbb]; dsimp only; (try simp (discharger:=decide) only [eval_put_ne]); rw [Q0a (by simp only [size_put]; exact (by decide:28 < 42))]; exact q11) rfl
       | false =>
         replace q12:v 12=.slice (some ⟨b1,o1,none⟩) n ca:=q12;replace q13:v 13=.int .i64 (k:Int):=q13;refine Flow.Q0j (d:=28) rfl rfl (by rw [hbb]; simp only [size_put]; exact (by decide:28 < 42)) (by rw [hbb]; dsimp only; (try simp (discharger:=decide) only [eval_put_ne]); rw [Q0a (by simp only [size_put]; exact (by decide:28 < 42))]; exact q11) ?_
         subst hbb;refine ⟨_,fun w=>?_,rfl⟩;go_simp
      case g15=>
       intro v w1 hx (q11:v 11=_) (q14:v 14=Q4e d (.pointer (some ⟨b1,o1 + k * 2,none⟩)));intro bb hbb;cases d with
       | true=>exact Flow.Q1l (d:=28) rfl rfl (by rw [hbb]; simp only [size_put]; exact (by decide:28 < 42)) (by rw [hbb]; dsimp only; (try simp (discharger:=decide) only [eval_put_ne]); rw [Q0a (by simp only [size_put]; exact (by decide:28 < 42))]; exact q11) rfl
       | false =>
         replace q14:v 14=.pointer (some ⟨b1,o1 + k * 2,none⟩):=q14;refine Flow.Q0j (d:=28) rfl rfl (by rw [hbb]; simp only [size_put]; exact (by decide:28 < 42)) (by rw [hbb]; dsimp only; (try simp (discharger:=decide) only [eval_put_ne]); rw [Q0a (by simp only [size_put]; exact (by decide:28 < 42))]; exact q11) ?_
         subst hbb;refine ⟨_,fun w=>?_,rfl⟩;go_simp
      case g16=>
       intro v w1 hx (q11:v 11=_) (q15:v 15=Q4e d (.pointer (some ⟨b1,o1 + k * 2,none⟩)));intro bb hbb;have n0:=(Vq.trans hx).cell Fx.out;cases d with
       | true=>exact Flow.Q1l (d:=28) rfl rfl (by rw [hbb]; simp only [size_put]; exact (by decide:28 < 42)) (by rw [hbb]; dsimp only; (try simp (discharger:=decide) only [eval_put_ne]); rw [Q0a (by simp only [size_put]; exact (by decide:28 < 42))]; exact q11) rfl
       | false =>
         replace q15:v 15=.pointer (some ⟨b1,o1 + k * 2,none⟩):=q15;refine Flow.Q0j (d:=28) rfl rfl (by rw [hbb]; simp only [size_put]; exact (by decide:28 < 42)) (by rw [hbb]; dsimp only; (try simp (discharger:=decide) only [eval_put_ne]); rw [Q0a (by simp only [size_put]; exact (by decide:28 < 42))]; exact q11) ?_
         subst hbb;intro K hK;go_simp;exact hK _ _ (Ext.refl _) rfl
      case g19=>
       intro v w1 hx (q11:v 11=_) (q17:v 17=Q4e d (.slice (some ⟨b2,o2,none⟩) n cb)) (q18:v 18=Q4e d (.int .i64 (k:Int)));intro bb hbb;cases d with
       | true=>exact Flow.Q1l (d:=28) rfl rfl (by rw [hbb]; simp only [size_put]; exact (by decide:28 < 42)) (by rw [hbb]; dsimp only; (try simp (discharger:=decide) only [eval_put_ne]); rw [Q0a (by simp only [size_put]; exact (by decide:28 < 42))]; exact q11) rfl
       | false =>
         replace q17:v 17=.slice (some ⟨b2,o2,none⟩) n cb:=q17;replace q18:v 18=.int .i64 (k:Int):=q18;refine Flow.Q0j (d:=28) rfl rfl (by rw [hbb]; simp only [size_put]; exact (by decide:28 < 42)) (by rw [hbb]; dsimp only; (try simp (discharger:=decide) only [eval_put_ne]); rw [Q0a (by simp only [size_put]; exact (by decide:28 < 42))]; exact q11) ?_
         subst hbb;refine ⟨_,fun w=>?_,rfl⟩;go_simp
      case g20=>
       intro v w1 hx (q11:v 11=_) (q19:v 19=Q4e d (.pointer (some ⟨b2,o2 + k * 2,none⟩)));intro bb hbb;cases d with
       | true=>exact Flow.Q1l (d:=28) rfl rfl (by rw [hbb]; simp only [size_put]; exact (by decide:28 < 42)) (by rw [hbb]; dsimp only; (try simp (discharger:=decide) only [eval_put_ne]); rw [Q0a (by simp only [size_put]; exact (by decide:28 < 42))]; exact q11) rfl
       | false =>
         replace q19:v 19=.pointer (some ⟨b2,o2 + k * 2,none⟩):=q19;refine Flow.Q0j (d:=28) rfl rfl (by rw [hbb]; simp only [size_put]; exact (by decide:28 < 42)) (by rw [hbb]; dsimp only; (try simp (discharger:=decide) only [eval_put_ne]); rw [Q0a (by simp only [size_put]; exact (by decide:28 < 42))]; exact q11) ?_
         subst hbb;refine ⟨_,fun w=>?_,rfl⟩;go_simp
      case g21=>
       intro v w1 hx (q11:v 11=_) (q20:v 20=Q4e d (.pointer (some ⟨b2,o2 + k * 2,none⟩)));intro bb hbb;have n0:=(Vq.trans hx).cell f9.out;cases d with
       | true=>exact Flow.Q1l (d:=28) rfl rfl (by rw [hbb]; simp only [size_put]; exact (by decide:28 < 42)) (by rw [hbb]; dsimp only; (try simp (discharger:=decide) only [eval_put_ne]); rw [Q0a (by simp only [size_put]; exact (by decide:28 < 42))]; exact q11) rfl
       | false =>
         replace q20:v 20=.pointer (some ⟨b2,o2 + k * 2,none⟩):=q20;refine Flow.Q0j (d:=28) rfl rfl (by rw [hbb]; simp only [size_put]; exact (by decide:28 < 42)) (by rw [hbb]; dsimp only; (try simp (discharger:=decide) only [eval_put_ne]); rw [Q0a (by simp only [size_put]; exact (by decide:28 < 42))]; exact q11) ?_
         subst hbb;intro K hK;go_simp;exact hK _ _ (Ext.refl _) rfl
      case g22=>
       intro v w1 hx (q11:v 11=_) (q16:v 16=Q4e d (.slice X cp.length Rq)) (q21:v 21=Q4e d (.slice Y cq.length Jq));intro bb hbb;cases d with
       | true=>exact Flow.Q1l (d:=28) rfl rfl (by rw [hbb]; simp only [size_put]; exact (by decide:28 < 42)) (by rw [hbb]; dsimp only; (try simp (discharger:=decide) only [eval_put_ne]); rw [Q0a (by simp only [size_put]; exact (by decide:28 < 42))]; exact q11) rfl
       | false =>
         replace q16:v 16=.slice X cp.length Rq:=q16;replace q21:v 21=.slice Y cq.length Jq:=q21;refine Flow.Q0j (d:=28) rfl rfl (by rw [hbb]; simp only [size_put]; exact (by decide:28 < 42)) (by rw [hbb]; dsimp only; (try simp (discharger:=decide) only [eval_put_ne]); rw [Q0a (by simp only [size_put]; exact (by decide:28 < 42))]; exact q11) ?_
         subst hbb;intro K hK;go_simp;refine Q0d (N6.out w1 (Vq.trans hx)) ?_;rintro e w2 ⟨rfl,Mq⟩;exact ⟨_,rfl,hK _ _ Mq rfl⟩
      case g23=>
       intro v w1 hx (q11:v 11=_) (q22:v 22=Q4e d (.bool e));intro bb hbb;cases d with
       | true=>exact Flow.Q1l (d:=28) rfl rfl (by rw [hbb]; simp only [size_put]; exact (by decide:28 < 42)) (by rw [hbb]; dsimp only; (try simp (discharger:=decide) only [eval_put_ne]); rw [Q0a (by simp only [size_put]; exact (by decide:28 < 42))]; exact q11) rfl
       | false =>
         replace q22:v 22=.bool e:=q22;refine Flow.Q0j (d:=28) rfl rfl (by rw [hbb]; simp only [size_put]; exact (by decide:28 < 42)) (by rw [hbb]; dsimp only; (try simp (discharger:=decide) only [eval_put_ne]); rw [Q0a (by simp only [size_put]; exact (by decide:28 < 42))]; exact q11) ?_
         subst hbb;refine ⟨_,fun w=>?_,rfl⟩;go_simp
      case g24=>
       intro v w1 hx (q11:v 11=_) (q23:v 23=Q4e d (.bool (!e)));intro bb hbb;subst hbb;refine ⟨.bool (d || !e),fun w=>?_,rfl⟩
       cases d with
       | true=>go_simp
       | false=>go_simp; rfl
      case post =>
       intro v w1 hx;(iterate 12 intro (zq:v _=_));intro (q12:v 12=Q4e d (.slice (some ⟨b1,o1,none⟩) n ca)) (q13:v 13=Q4e d (.int .i64 (k:Int))) (q14:v 14=Q4e d (.pointer (some ⟨b1,o1 + k * 2,none⟩))) (q15:v 15=Q4e d (.pointer (some ⟨b1,o1 + k * 2,none⟩))) (q16:v 16=Q4e d (.slice X cp.length Rq)) (q17:v 17=Q4e d (.slice (some ⟨b2,o2,none⟩) n cb)) (q18:v 18=Q4e d (.int .i64 (k:Int))) (q19:v 19=Q4e d (.pointer (some ⟨b2,o2 + k * 2,none⟩))) (q20:v 20=Q4e d (.pointer (some ⟨b2,o2 + k * 2,none⟩))) (q21:v 21=Q4e d (.slice Y cq.length Jq)) (q22:v 22=Q4e d (.bool e)) (q23:v 23=Q4e d (.bool (!e)));(iterate 1 intro (zq:v _=_));simp only [Flow.All,Flow.acts,Act.put];go_simp;have Yx:=hid (Qg.out.trans (Vq.trans hx));clear hx Vq q12 q13 q14 q15 q16 q17 q18 q19 q20 q21 q22 q23;(repeat clear zq);obtain ⟨f,hf⟩:∃ f,(d || !e)=f:=⟨_,rfl⟩
       rw [hf];have HF:=hid hf;clear hf;cases f with
       | true =>
         have hne:Q4w p q=false:=by
          refine decide_eq_false (Zk.out fun h=>?_);injection h with h1 h2;have h3:=HF.out;rw [<- o0.out,<- ZJ.out,h1,h2] at h3;simp at h3
         have HR:=hid hne;clear hne;go_wp2;go_ret;exact ⟨by rw [HR.out]; rfl,Sq.out.trans Yx.out⟩
       | false =>
         have Cj:Z1r (p.getD k default)=Z1r (q.getD k default):=by
          rw [Y4.out,Y4.out,j5.out,i9.out,Bw.out,aK.out];have h3:=HF.out;rw [<- o0.out,<- ZJ.out] at h3;simp at h3;rw [h3.1,h3.2]
         have az:=hid Cj;clear Cj;go_wp2;go_roundw
         case rel=>exact ⟨k + 1,by omega,by go_num,(fun j hj=>by
          rcases Nat.lt_or_ge j k with h | h
          . exact C2.out j h
          . have e:j=k:=by omega
            subst e; exact az.out),Yx.out⟩
         case measure=>simp [intOf]; omega
    . have Lj:¬ (k:Int) < n:=by omega
      have nj:k=n:=by omega
      have hr:Q4w p q=true:=decide_eq_true (Y0f (by rw [HN.out,HM.out]) (by rw [HN.out,<- nj]; exact fw))
      have HR:=hid hr;clear fw hr;go_wp2;go_ret;exact ⟨by rw [HR.out]; rfl,Dq⟩
 . have hI:((n:Int) != (m:Int))=true:=by simp; omega
   have hr:Q4w p q=false:=decide_eq_false fun h=>vj (by have:=congrArg List.length h; simpa [HN.out,HM.out] using this)
   have HR:=hid hr;clear vj hr;go_wp2;go_ret;exact ⟨by rw [HR.out]; rfl,Ext.refl _⟩
end Go.Proofs
namespace Go.Proofs
open Go.RowKit Go.Tw Go.Flow Tryz
theorem Z6y (w:World) (v:Value) (l:List Int) (x:Int) (hv:Q0e w v l) :
    Calls prog 177 #[v,.int .i64 x] w fun e w'=>∃ r:Int,e=.returned (.int .i64 r) /\ decide (0 <= r)=has l x /\ w=w':=by
 obtain ⟨A,Qq,rfl,hl,Kq,hc⟩:=hv.opened;clear hv;go_enter func177,ntmps177;go_wp2
 go_loop [8] (fun i=>∃ k:Nat,k <= l.length /\ i=.int .i64 k /\ has (l.drop k) x=has l x) (fun i=>l.length - (intOf i).toNat)
 case atStart=>exact ⟨0,Nat.zero_le _,rfl,rfl⟩
 case round =>
  obtain ⟨k,hk,rfl,hr⟩:=hrel;have HR:=hid hr; clear hr
  by_cases Tq:k < l.length
  . obtain ⟨b,off,rfl,Xq⟩:=hc k Tq
    clear hc
    by_cases hx:ix l k=x
    . have HX:=hid hx
      have Yj:(x == ix l k)=true:=by simp [hx]
      clear hx;go_wp2;go_ret;exact ⟨k,rfl,by rw [<- HR.out,Q2v Tq,X1u,HX.out]; simp,rfl⟩
    . have Yj:(x == ix l k)=false:=by rw [beq_eq_false_iff_ne]; exact fun e=>hx e.symm
      have HX:=hid hx; clear hx;go_wp2;go_round
      case rel=>exact ⟨k + 1,by omega,by go_num,by rw [<- HR.out,Q2v Tq,X1u,beq_false_of_ne HX.out,Bool.false_or]⟩
      case measure=>simp [intOf]; omega
  . clear hc
    go_wp2;go_ret;exact ⟨-1,rfl,by rw [<- HR.out,List.drop_eq_nil_of_le (by omega)]; rfl,rfl⟩
theorem Y6h (w:World) (v:Value) (l:List Int) (x:Int) (hv:Q0e w v l) :
    Calls prog 140 #[v,.int .i64 x] w fun e w'=>e=.returned (.bool (has l x)) /\ w=w':=by
 obtain ⟨A,Qq,rfl,hl,Kq,hc⟩:=hv.opened;have HV:=hid hv;clear hv hc;go_enter func140,ntmps140;go_wp2_with (go_at_call 177; refine (Z6y _ _ l x HV.out).mono ?_; rintro e w' ⟨r,rfl,hr,rfl⟩; have HR:=hid hr; clear hr);go_ret;exact ⟨Q0x HR.out,rfl⟩
end Go.Proofs
namespace Go.Proofs
open Go.RowKit Go.Tw Go.Flow Tryz
attribute [local go_sem] Oper.semAt_some
theorem J2c (w:World) (v:Value) (p:List Rul) (hv:Q0m w v p) (hl:p.length <= 4096) (h8:∀ k,k < p.length -> (Q0k p k).length <= 4096) :
    Calls prog 34 #[v] w fun e w'=>∃ u,e=.returned u /\ Q0m w' u p /\ Ext w w':=by
 obtain ⟨i0,hi,fq,mq,iq⟩:=info_parts J6a;obtain ⟨a,rfl,h2⟩:=hv;obtain ⟨A,Qq,rfl,-,Kq,hc⟩:=h2.opened;have HC:=hid hc;obtain ⟨n,hn⟩:∃ n,p.length=n:=⟨_,rfl⟩;have HN:=hid hn;rw [hn] at hl HC h8 ⊢;have H8:=hid h8;clear h2 hc hn Kq h8;go_enter func34,ntmps34;go_wp2_with fail;obtain ⟨W,Nq,k0,k1,k2,Sq,eW⟩:=Q9s w 47 #[.slice A n Qq] 38 #[.slice none 0 0] 38 #[.slice none 0 0];rw [Nq];clear Nq;obtain ⟨gs,bq⟩:∃ x,w.heap.size=x:=⟨_,rfl⟩;have Nz:=hid bq;rw [bq] at k1 k2 eW ⊢;have K1:=hid k1;clear k0 k1 bq;obtain ⟨gp,Yk⟩:∃ x,gs + 1 + 1=x:=⟨_,rfl⟩;have Ag:=hid Yk;rw [Yk] at k2 eW ⊢;clear Yk
 go_loopw [9] (fun i wr=>∃ (k:Nat) (vo:Value) (qs:List (Value × Rul)),k <= n /\ i=.int .i64 k /\ Blk wr gp 38 #[vo] /\ Q1b wr (gp + 1) 167 2 X0s vo qs /\ qs.map (·.2)=p.take k /\ RuR wr qs /\ Below gp W wr /\ gp + 1 <= wr.heap.size) (fun i _=>n - (intOf i).toNat)
 case atStart=>exact ⟨0,_,[],Nat.zero_le _,rfl,k2,Q1b.nil _ _ _ _ _,rfl,(fun q hq=>by simp at hq),Below.refl _ _,by omega⟩
 case round =>
  obtain ⟨k,vo,qs,hk,rfl,Dz,Yq,Lz,Bv,dq,pq⟩:=hrel;have Dq:Ext w wr:=Below.trans Sq.out (dq.mono (by have:=Nz.out; have:=Ag.out; omega))
  have rz:qs.length=k:=by rw [<- List.length_map (f:=(·.2)),Lz,List.length_take,HN.out]; omega
  have zg:=hid Lz;have N0:=hid dq;have Nj:=hid Bv
  by_cases Tq:k < n
  . have Lj:(k:Int) < n:=by omega
    obtain ⟨b,off,x,rfl,hb,e0,e1,mz⟩:=HC.out k Tq;replace e0:=Dq.cell e0;replace e1:=Dq.cell e1;obtain ⟨X,Rq,rfl,-,-,-⟩:=mz.opened;have Wx:p.take (k + 1)=p.take k ++ [⟨Q0k p k,Q3a p k⟩]:=by
     rw [List.take_succ_eq_append_getElem (by rw [HN.out]; exact Tq),Q0k,Q3a,Q0t _ (by rw [HN.out]; exact Tq)]
    have C5:=H8.out k Tq;have HI:=hid (mz.ext Dq);have tz:=hid Wx;obtain ⟨cs,Bk⟩:∃ c,Q0k p k=c:=⟨_,rfl⟩;obtain ⟨cb,Rj⟩:∃ c,Q3a p k=c:=⟨_,rfl⟩;rw [Bk] at e0 HI tz C5;rw [Rj] at e1 tz;have pj:=Ext.box wr (.cells #[.slice X cs.length Rq,.bool cb] 115);have qj:=Blk.made wr 115 #[.slice X cs.length Rq,.bool cb];have Rw:=hid (Dz.ext pj);have lq:=hid (Yq.below pj);have M6:=hid (Bv.ext pj);have F7:=hid (HI.out.ext pj);have QJ:gp + 1 <= (wr.alloc (.cells #[.slice X cs.length Rq,.bool cb] 115)).heap.size:=by have:=pj.size; omega
    clear Lz Bv dq Dq mz Wx Bk Rj Dz Yq;go_wp2_with fail;obtain ⟨gx,EJ⟩:∃ x,wr.heap.size=x:=⟨_,rfl⟩;obtain ⟨wb,nz⟩:∃ Z,wr.alloc (.cells #[.slice X cs.length Rq,.bool cb] 115)=Z:=⟨_,rfl⟩;rw [nz,EJ] at qj;rw [nz] at pj QJ;rw [nz] at Rw lq M6 F7;rw [nz,EJ];have KX:=hid qj;have B3:=hid pj;have Gn:gp < gx:=by omega
    have Vq:=(Ext.refl wb).drew;clear nz EJ qj pj e0 e1 hb;refine Flow.Q4h [.p,.w,.p,.w,.w,.p,.w,.p,.w,.last,.last,.last] [0,1,2,3,4,5,6,7,8,9,10,11] [[],[0],[],[2],[2,3],[],[5],[2,3,4,5,6],[2,3,4,5,6,7],[0,1,2,3,4,5,6,7,8],[0,1,2,3,4,5,6,7,8,9],[0,1,2,3,4,5,6,7,8,9,10]] [9,10,11]
     [.c 0 (.pointer (some ⟨gp,0,none⟩)),.c 1 (vo),.c 2 (.pointer (some ⟨gx,0,none⟩)),.c 3 (.slice X cs.length Rq),⟨fun v wz=>(fun v w'=>Q0n w' 0 3 (.int .i64) (v 4) cs) v wz,by intro v a b hx h; exact Q0n.below h hx⟩,.c 5 (.pointer (some ⟨gx,1,none⟩)),.c 6 (.bool cb),⟨fun v wz=>(fun v w'=>v 7=.agg #[v 4,.bool cb]) v wz,by intro _ _ _ _ h; exact h⟩,⟨fun v wz=>(fun v w'=>∃ g,v 8=.slice (some ⟨g,0,none⟩) 1 1 /\ Blk w' g 167 (X0s (v 4,⟨cs,cb⟩)).toArray) v wz,by rintro v a b hx ⟨g,h1,h2⟩; exact ⟨g,h1,h2.ext hx⟩⟩,.none,.none,.none]
     [fun v w1 w'=>Q1b w' (gp + 1) 167 2 X0s (v 9) (qs ++ [(v 4,⟨cs,cb⟩)]) /\ w1.grownBy w' vo.ownBlock,fun v w1 w'=>v 10=.pointer (some ⟨gp,0,none⟩) /\ Q1b w' (gp + 1) 167 2 X0s (v 9) (qs ++ [(v 4,⟨cs,cb⟩)]) /\ w1.grownBy w' vo.ownBlock,fun v w1 w'=>∃ x wm,Q1b wm (gp + 1) 167 2 X0s x (qs ++ [(v 4,⟨cs,cb⟩)]) /\ w1.grownBy wm vo.ownBlock /\ w'=wm.setCell ⟨gp,0,none⟩ x] (by kernel_rfl) rfl (by kernel_rfl) ⟨?g0,?g1,?g2,?g3,?g4,?g5,?g6,?g7,?g8,?g9,?g10,?g11,trivial⟩ ?post
    case g0 | g2 | g5=>
     intro v w1 hx;intro bb hbb;subst hbb;refine ⟨_,fun w=>?_,rfl⟩;go_simp
    case g1 | g3 | g6=>
     intro v w1 hx;(repeat intro (zq:v _=_));intro bb hbb;subst hbb;have n0:w1.cell? ⟨gp,0,none⟩=some vo:=(Rw.out.ext (Vq.trans hx)).cell 0;have n1:w1.cell? ⟨gx,0,none⟩=some (.slice X cs.length Rq):=(KX.out.ext (Vq.trans hx)).cell 0;have n2:w1.cell? ⟨gx,1,none⟩=some (.bool cb):=(KX.out.ext (Vq.trans hx)).cell 1;intro K hK;go_simp;exact hK _ _ (Ext.refl _) rfl
    case g4=>
     intro v w1 hx;(repeat intro (zq:v _=_));intro bb hbb;subst hbb;intro K hK;go_simp;refine Q0d (Q7s w1 _ _ (F7.out.ext (Vq.trans hx)) (by omega)) ?_
     rintro e w2 ⟨u,rfl,Yq,Mq⟩;exact ⟨_,rfl,hK _ _ Mq (Q0n.weaken Yq (Nat.zero_le _))⟩
    case g7=>
     intro v w1 hx (q2:v 2=_) (q3:v 3=_) (q4:(fun v w'=>Q0n w' 0 3 (.int .i64) (v 4) cs) v w1) (q5:v 5=_) (q6:v 6=_);intro bb hbb;obtain ⟨s9,c9,e9,_⟩:=Q0n.shape q4;have o1:bb.eval (.tmp 17)=v 4:=by rw [hbb]; dsimp only; (try simp (discharger:=decide) only [eval_put_ne]); rw [Q0a (by simp only [size_put]; exact (by decide:17 < 26))]
     have o2:bb.eval (.tmp 19)=.bool cb:=by rw [hbb]; dsimp only; (try simp (discharger:=decide) only [eval_put_ne]); rw [Q0a (by simp only [size_put]; exact (by decide:19 < 26))]; exact q6
     rw [e9] at o1;exact ⟨_,fun w=>X1r _ (.tmp 17) (.tmp 19) rfl o1 o2 (fun w=>Z0u w _ _ _ _),by show Value.agg #[.slice s9 cs.length c9,.bool cb]=Value.agg #[v 4,.bool cb]; rw [e9]⟩
    case g8=>
     intro v w1 hx (q2:v 2=_) (q3:v 3=_) (q4:(fun v w'=>Q0n w' 0 3 (.int .i64) (v 4) cs) v w1) (q5:v 5=_) (q6:v 6=_) (q7:(fun v w'=>v 7=.agg #[v 4,.bool cb]) v w1);intro bb hbb;intro K hK;obtain ⟨s9,c9,e9,_⟩:=Q0n.shape q4;have o1:bb.eval (.tmp 20)=.agg #[v 4,.bool cb]:=by rw [hbb]; dsimp only; (try simp (discharger:=decide) only [eval_put_ne]); rw [Q0a (by simp only [size_put]; exact (by decide:20 < 26))]; exact q7
     rw [e9] at o1;have jx:Blk (w1.alloc (.cells (Value.agg #[.slice s9 cs.length c9,.bool cb]).cells 167)) w1.heap.size 167 (X0s (v 4,⟨cs,cb⟩)).toArray:=by rw [e9]; exact Blk.made _ _ _
     exact Q3t 36 167 (.tmp 20) rfl o1 (J2o w1 _ _ _ _) (hK _ _ (Ext.box _ _) ⟨_,rfl,jx⟩)
    case g9=>
     intro v w1 hx (q0:v 0=_) (q1:v 1=_) (q2:v 2=_) (q3:v 3=_) (q4:(fun v w'=>Q0n w' 0 3 (.int .i64) (v 4) cs) v w1) (q5:v 5=_) (q6:v 6=_) _ (q8:(fun v w'=>∃ g,v 8=.slice (some ⟨g,0,none⟩) 1 1 /\ Blk w' g 167 (X0s (v 4,⟨cs,cb⟩)).toArray) v w1);intro wl hT;obtain rfl:wl=w1:=hT;intro bb hbb;intro K hK;obtain ⟨g,U6,T6⟩:=q8;have o1:bb.eval (.tmp 14)=vo:=by rw [hbb]; dsimp only; (try simp (discharger:=decide) only [eval_put_ne]); rw [Q0a (by simp only [size_put]; exact (by decide:14 < 26))]; exact q1
     have o2:bb.eval (.tmp 21)=.slice (some ⟨g,0,none⟩) 1 1:=by rw [hbb]; dsimp only; (try simp (discharger:=decide) only [eval_put_ne]); rw [Q0a (by simp only [size_put]; exact (by decide:21 < 26))]; exact U6
     have Zq:=Vq.trans hx;exact Q2z _ _ 36 rfl (gp + 1) 167 i0 (.agg #[.slice none 0 0,.bool false]) 2 32 underlying36 hi fq mq iq rfl (by decide) X0s Q7v vo _ (v 4,⟨cs,cb⟩) o1 (lq.out.below Zq) ⟨g,0,none⟩ 1 o2 (Q6i T6) (J4s (q:=(v 4,⟨cs,cb⟩)) q4) (by omega) (by decide) (by have:=Zq.size; omega) (fun v' w' h1 h2=>hK _ _ ⟨h1,h2⟩)
    case g10=>
     intro v w1 hx (q0:v 0=_) (q1:v 1=_) (q2:v 2=_) (q3:v 3=_) _ (q5:v 5=_) (q6:v 6=_) _ _;intro wl hT;replace hT:(fun v w1 w'=>Q1b w' (gp + 1) 167 2 X0s (v 9) (qs ++ [(v 4,⟨cs,cb⟩)]) /\ w1.grownBy w' vo.ownBlock) v w1 wl:=hT;intro bb hbb;subst hbb;intro K hK;go_simp;exact hK _ _ ⟨rfl,hT⟩
    case g11=>
     intro v w1 hx (q0:v 0=_) (q1:v 1=_) (q2:v 2=_) (q3:v 3=_) _ (q5:v 5=_) (q6:v 6=_) _ _;intro wl hT;replace hT:(fun v w1 w'=>v 10=.pointer (some ⟨gp,0,none⟩) /\ Q1b w' (gp + 1) 167 2 X0s (v 9) (qs ++ [(v 4,⟨cs,cb⟩)]) /\ w1.grownBy w' vo.ownBlock) v w1 wl:=hT;intro bb hbb;intro K hK;obtain ⟨mW,L0,Ew⟩:=hT;have Zq:=Vq.trans hx;obtain ⟨bp,cp,Aj,_⟩:=L0.shape;have o1:bb.eval (.tmp 23)=.pointer (some ⟨gp,0,none⟩):=by rw [hbb]; dsimp only; (try simp (discharger:=decide) only [eval_put_ne]); rw [Q0a (by simp only [size_put]; exact (by decide:23 < 26))]; exact mW
     have o2:bb.eval (.tmp 22)=v 9:=by rw [hbb]; dsimp only; (try simp (discharger:=decide) only [eval_put_ne]); rw [Q0a (by simp only [size_put]; exact (by decide:22 < 26))]
     have jx:=Go.Tw.Q7f (Rw.out.ext Zq) (lq.out.below Zq) (by omega) Ew
     exact Q3z _ _ rfl J8i (g:=gp) (k:=0) o1 o2 (by rw [Aj]; rfl) (by rw [Aj]; rfl) jx (by show 0 < 1; omega) (fun v'=>hK _ _ ⟨v 9,wl,L0,Ew,rfl⟩)
    case post =>
     intro v w1 hx;(iterate 4 intro (zq:v _=_));intro (q4:(fun v w'=>Q0n w' 0 3 (.int .i64) (v 4) cs) v w1);(iterate 2 intro (zq:v _=_));intro (q7:(fun v w'=>v 7=.agg #[v 4,.bool cb]) v w1) (q8:(fun v w'=>∃ g,v 8=.slice (some ⟨g,0,none⟩) 1 1 /\ Blk w' g 167 (X0s (v 4,⟨cs,cb⟩)).toArray) v w1);intro w2 hE;replace hE:(fun v w1 w'=>∃ x wm,Q1b wm (gp + 1) 167 2 X0s x (qs ++ [(v 4,⟨cs,cb⟩)]) /\ w1.grownBy wm vo.ownBlock /\ w'=wm.setCell ⟨gp,0,none⟩ x) v w1 w2:=hE;simp only [Flow.acts,Act.put];go_simp;obtain ⟨x,wm,r9,xz,rfl⟩:=hE;have Zq:=Vq.trans hx;have sy:=lq.out.below Zq;have Wv:=Go.Tw.Q7f (Rw.out.ext Zq) sy (by omega) xz
     have T4:=hid (r9.X4b (p:=⟨gp,0,none⟩) (Nat.lt_succ_self gp) x);have MJ:=hid (Wv.set 0 x);have ZV:Below gp W wm:=Below.trans N0.out (Below.grown ((B3.out.trans Zq).mono (by omega)) xz (by have:=Zq.size; omega) (fun j hj=>by have:=(sy.lt j hj).1; omega))
     have Yx:=hid (ZV.setCell (p:=⟨gp,0,none⟩) (Nat.le_refl _) x);have BY:=hid ((((M6.out.ext Zq).snoc (q:=(v 4,⟨cs,cb⟩)) q4).grown sy (by decide) xz).set (k:=0) (u:=x) Wv (by decide))
     have jf:Hid (gp + 1 <= (wm.setCell ⟨gp,0,none⟩ x).heap.size):=hid (by have:=Wv.lt; simp; omega)
     obtain ⟨w6,qK⟩:∃ y,wm.setCell ⟨gp,0,none⟩ x=y:=⟨_,rfl⟩;rw [qK] at T4 MJ Yx BY jf ⊢;clear qK r9 xz Zq hx Wv ZV sy Vq q4 q7 q8;(repeat clear zq);go_wp2;go_roundw
     case rel=>exact ⟨k + 1,x,qs ++ [(v 4,⟨cs,cb⟩)],by omega,by go_num,MJ.out,T4.out,by rw [List.map_append,zg.out,tz.out]; rfl,BY.out,Yx.out,jf.out⟩
     case measure=>simp [intOf]; omega
  . have Lj:¬ (k:Int) < n:=by omega
    have nj:k=n:=by omega
    subst nj;have hp:p.take k=p:=by rw [List.take_of_length_le (by rw [HN.out]; omega)]
    rw [hp] at Lz;obtain ⟨Av,cv',rfl,-⟩:=Yq.shape;rw [rz] at Dz;have Qz:=hid Yq;have V6:=hid rz;have c0:wr.cell? ⟨gp,0,none⟩=some (.slice Av k cv'):=Dz.cell 0;have sx:=K1.out.below dq (by have:=Ag.out; omega)
    have c1:wr.cell? ⟨gs + 1,0,none⟩=some (.slice none 0 0):=sx.cell 0;have f1:=sx.frozen 0;have Rk:=hid sx;have rq:=hid Dq;have U8:=hid Lz;have Q0:Hid (gs + 1 < gp + 1):=hid (by have:=Ag.out; omega)
    clear Dz Yq Lz Bv Dq sx dq hp;go_wp2;refine bodyPost_ret (Q2h results34 rfl (Rk.out.set 0 _) Q6t Q4b) rfl ?_;have j7:=Qz.out.X4b (p:=⟨gs + 1,0,none⟩) Q0.out (.slice Av k cv');have Fn:=Nj.out.set (k:=0) (u:=.slice Av k cv') Rk.out (by decide)
    rw [V6.out] at j7;have h:=X5i j7 (by rw [V6.out]; omega) Fn (fun q hq=>by
     have hm:q.2 ∈ p:=by rw [<- U8.out]; exact List.mem_map_of_mem hq
     obtain ⟨j,hj,he⟩:=List.getElem_of_mem hm;have:=H8.out j (by rw [<- HN.out]; exact hj)
     unfold Q0k at this;rw [Q0t _ hj,he] at this;exact this)
    rw [U8.out] at h;exact ⟨_,rfl,⟨_,rfl,h⟩,rq.out.X8l (p:=⟨gs + 1,0,none⟩) (by show w.heap.size <= gs + 1; have:=Nz.out; omega) _⟩
end Go.Proofs
