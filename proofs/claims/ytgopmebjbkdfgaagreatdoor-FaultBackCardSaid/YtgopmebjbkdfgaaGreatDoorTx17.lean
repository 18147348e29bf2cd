/- Contracts: Next. -/
import Derived.Test.YtgopmebjbkdfgaaGreatDoorTx16
set_option maxRecDepth 1000000
set_option maxHeartbeats 64000000
set_option linter.unusedVariables false
set_option linter.unusedSimpArgs false
set_option linter.constructorNameAsVariable false
namespace Go.Proofs
open Go.RowKit Go.Tw Go.Flow
def Z7u (r s:Ratio):Bool:=r.num == s.num && r.den == s.den
theorem X0m (w:World) (r s:Ratio):(binOp .eql 52 (.agg (encR r)) (.agg (encR s))).run Tryz.prog w = .ok (.bool (Z7u r s)) w:=by
 have u3:=Tryz.underlying3;have a3:∀ w,(isAgg 3).run Tryz.prog w = .ok false w:=fun w=>by kernel_rfl
 have z3:∀ w,(sizeOf 3).run Tryz.prog w = .ok 1 w:=fun w=>by kernel_rfl
 have hS:Tryz.prog.underlying 52 = some (.struct (Tryz.prog.fieldsOf 52)):=by kernel_rfl
 have hp:Tryz.prog.stoodInHeld 52 = false:=by kernel_rfl
 simp only [encR];rw [run_eql_struct,show (10000:Nat) = 9999 + 1 from rfl,run_equalIn_agg w 9999 52 _ _ hS hp]
 simp only [Program.fieldsOf,Tryz.underlying52];unfold Z7u;go_simp
 by_cases h1:r.num = s.num <;> by_cases h2:r.den = s.den <;> simp [h1,h2]
theorem Y1o (w:World) (a b c d:Int):(binOp .eql 52 (.agg (Q8u a b)) (.agg (Q8u c d))).run Tryz.prog w = .ok (.bool (Z7u (lowest a b) (lowest c d))) w:=X0m w _ _
theorem Q4t {P:Program} {fn:Func} {p q r:Tmp} {T:TypeId} (h:fn.results = #[.tmp p,.cell q T,.tmp r]) {tmps:Array Value} {w:World} {g:Nat} (ht:tmps.getD q undef = .pointer (some ⟨g,0,none⟩)) {BT:TypeId} {cs:Array Value} (hb:Blk w g BT cs)
    (hA:∀ w,(isAgg T).run P w = .ok true w) (hS:∀ w,(sizeOf T).run P w = .ok cs.size w) {u v:Value} (hp:tmps.getD p undef = u) (hr:tmps.getD r undef = v):(results fn tmps).run P w = .ok (.tuple #[u,.agg cs,v]) w:=by
 unfold results;rw [h];simp only [List.mapM_toArray,List.mapM_cons,List.mapM_nil,Sem.run_bind,Sem.run_pure,ht,hp,hr,asAddr];simp [Q3b hb hA hS]
def Y4f (t:Tree) (k:Nat):Int:=Q1i t (Q1u t.Q0b [(k:Int)] 0) 0
def Z2a (t:Tree) (p:Nat × Int) (k:Nat):Nat × Int:=if Y4f t k < p.2 then (k,Y4f t k) else p
def Q6c (t:Tree):Nat -> Nat × Int
 | 0=>(0,Q1i t t.Q0b 0)
 | k + 1=>Z2a t (Q6c t k) k
def Y7w (t:Tree):Nat × Int:=Q6c t t.size
def Q6w (t:Tree):Bool:=Z7u (lowest (Y7w t).2 (Q7g 16 t.size)) (lowest (Q1i t t.Q0b 0) (Q7g 16 t.size))
def X2m (t:Tree):Int:=if t.err = 0 then (if Q6w t then 7 else 0) else t.err
def X7r (t:Tree):Nat:=if t.err = 0 then (if Q6w t then 0 else (Y7w t).1) else 0
def nextR (t:Tree):Ratio:=if t.err = 0 then (if Q6w t then ⟨0,0⟩ else lowest (Y7w t).2 (Q7g 16 t.size)) else ⟨0,0⟩
theorem Y5r {t:Tree} (hv:Valid t) (k:Nat):0 <= Y4f t k /\ Y4f t k <= 1152921504606846976:=Q4y (Small.put hv.small (by omega) (by omega)) t 0 hv.size
theorem Y1g {t:Tree} (hv:Valid t):∀ k,0 <= (Q6c t k).2 /\ (Q6c t k).2 <= 1152921504606846976
 | 0=>Q4y hv.small t 0 hv.size
 | k + 1=>by
   have h1:=Y1g hv k;have h2:=Y5r hv k;show 0 <= (if _ then _ else _:Nat × Int).2 /\ (if _ then _ else _:Nat × Int).2 <= _
   split <;> assumption
attribute [local go_sem ↓] Y1o
theorem Z0w (w:World) (v:Value) (t:Tree) (ht:IsTree w v t) :
    Calls Tryz.prog 45 #[v] w fun e w'=>e = .returned (.tuple #[.int .i64 (X7r t),.agg (encR (nextR t)),.int .i64 (X2m t)]) /\ Ext w w':=by
 obtain ⟨a,b,c,rfl,h3⟩:=ht;obtain ⟨A,capa,rfl,hl1,hcap1,_⟩:=h3.basics.opened;obtain ⟨B,capb,rfl,hl2,hcap2,_⟩:=h3.causes.opened;obtain ⟨G,capg,rfl,hl3,hcap3,_⟩:=h3.gates.opened;have HT0:=Lib.hid h3;clear h3;go_enter Tryz.func45,Tryz.ntmps45;go_wp2_with fail;change Calls _ _ _ ((w.alloc (.cells #[.slice A t.basics.length capa,.slice B t.causes.length capb,.slice G t.gates.length capg] 33)).alloc (.cells #[.int .i64 0,.int .i64 0] 52)) _;obtain ⟨W,hWW,k0,k1,HXW,eW⟩:=Q5l w 33 #[.slice A t.basics.length capa,.slice B t.causes.length capb,.slice G t.gates.length capg] 52 #[.int .i64 0,.int .i64 0];rw [hWW];clear hWW;have HT:=Lib.hid (HT0.out.ext HXW.out);refine (Q1y _ _ t ⟨_,_,_,rfl,HT.out⟩).mono ?_;rintro e w1 ⟨rfl,hx1⟩;have kt:=k0.ext hx1;have c0:=kt.cell 0;have c1:=kt.cell 1;have c2:=kt.cell 2;simp only [Go.Tw.gA,Go.Tw.gB,Go.Tw.gC] at c0 c1 c2;have HXX:=Lib.hid (HXW.out.trans hx1);have HX1:=Lib.hid hx1;clear kt hx1;have hbr:=k1.ext HX1.out;clear k0 k1
 by_cases he:t.err = 0
 . have HA:Hid (X7r t = if Q6w t then 0 else (Y7w t).1):=Lib.hid (by unfold X7r; rw [if_pos he])
   have HR:Hid (nextR t = if Q6w t then ⟨0,0⟩ else lowest (Y7w t).2 (Q7g 16 t.size)):=Lib.hid (by unfold nextR; rw [if_pos he])
   have HRE:Hid (X2m t = if Q6w t then 7 else 0):=Lib.hid (by unfold X2m; rw [if_pos he])
   have hV:=Valid.of he;have HV:=Lib.hid hV;have HE0:=Lib.hid he;have hsz:=hV.size;have hne:(t.err != 0) = false:=by simp [he]
   clear he hV;go_wp2_with fail;refine (Q3i _ _ t HV.out ⟨_,_,_,rfl,HT.out.ext HX1.out⟩).mono ?_;rintro e w2 ⟨fv,gv,rfl,hn,hx2⟩;obtain ⟨A1,cap1,rfl,_,_,_⟩:=hn.fails.opened;obtain ⟨A2,cap2,rfl,_,_,_⟩:=hn.gates.opened;rw [Q2g] at hn ⊢;have HN:=Lib.hid hn;have HX2:=Lib.hid hx2;clear hn hx2 c0 c1 c2;replace hbr:=hbr.ext HX2.out;have hbl:=hbr.lt;go_wp2_with (first | (refine Q0i rfl _ 129 rfl Tryz.Q1s Tryz.Q0r rfl hb9 rfl ?_) | (refine Q1x rfl _ 124 rfl Tryz.Q6u Tryz.Q3z rfl (Q1w hb9) rfl ?_) | (refine Q0c rfl _ _ 129 rfl Tryz.Q0r rfl rfl (Blk.made _ _ _) rfl rfl ?_ ?_; (focus (intro u hu; simp [outA] at hu; rcases hu with rfl | rfl | rfl | rfl | rfl | rfl | rfl | rfl | rfl | rfl | rfl | rfl | rfl | rfl | rfl | rfl <;> rfl)); intro w9 hb9 hl9 ho9) | fail)
   have hx9:Ext w2 w9:=Below.trans (Ext.box w2 _) (hl9 _ (Nat.le_refl _));have HXX9:Hid (Ext w w9):=by exact (HXX.out.trans HX2.out).trans hx9
   have HN9:=Lib.hid (HN.out.ext hx9);replace hbr:=hbr.ext hx9;have HB9:=Lib.hid hb9;have HCL:=Lib.hid (Q4v t);have HSM:=Lib.hid HV.out.small;clear hl9 ho9 hb9 hx9;refine (Q4w _ _ _ t t.Q0b t.Q0b 0 HV.out HN9.out HSM.out HCL.out (by omega)).mono ?_
   rintro e w3 ⟨rfl,hx3⟩;clear HX1;have HX93:=Lib.hid hx3;have HBR:=Lib.hid (hbr.ext hx3);have hw2l:=hbl;have HSTART:Hid (Q1i t t.Q0b 0 = (Q6c t 0).2):=Lib.hid (rfl);have s0:=(HB9.out.ext hx3).cell 0;simp only [outA,Go.Tw.gA,Go.Tw.gB] at s0;have hwb:=Q4y HSM.out t 0 hsz;obtain ⟨all,hall⟩:∃ m,Q1i t t.Q0b 0 = m:=⟨_,rfl⟩;rw [hall] at HSTART hwb ⊢;have HALL:=Lib.hid hall;clear hbr hx3 hall hbl;go_wp2
   go_loopw [8,9,30] (fun b l i wr=>∃ (k:Nat),k <= t.size /\ i = .int .i64 k /\ b = .int .i64 (Q6c t k).1 /\ l = .int .i64 (Q6c t k).2 /\ Ext w3 wr) (fun _ _ i _=>t.size - (intOf i).toNat)
   case atStart=>exact ⟨0,Nat.zero_le _,rfl,rfl,by rw [HSTART.out],Ext.refl _⟩
   case round =>
    obtain ⟨k,hk,rfl,rfl,rfl,hx⟩:=hrel;have hnb:=Y1g HV.out k;have HX:=Lib.hid hx
    by_cases hlt:k < t.size
    . have HST:Hid (Q6c t (k + 1) = if Y4f t k < (Q6c t k).2 then (k,Y4f t k) else Q6c t k):=by exact (rfl:Q6c t (k + 1) = _)
      have hnw:=Y5r HV.out k;have HS0:=Lib.hid (Small.put (l:=[(k:Int)]) HSM.out (n:=0) (by omega) (by omega))
      obtain ⟨m,hm⟩:∃ m,Y4f t k = m:=⟨_,rfl⟩;have HW0:Hid (∀ w',Ext w9 w' -> Calls Tryz.prog 92 #[noV t t.Q0b (.slice A1 t.size cap1) (.slice A2 t.gates.length cap2),chV (Q1u t.Q0b [(k:Int)] 0),.int .i64 0] w' fun e w''=>e = .returned (.int .i64 m) /\ Ext w' w''):=by
       exact (by intro w' hx; rw [<- hm]; exact Q4w w' _ _ t t.Q0b _ 0 HV.out (HN9.out.ext hx) HS0.out (by rw [Q7x,HCL.out]) (by omega):∀ w',Ext w9 w' -> Calls Tryz.prog 92 #[noV t t.Q0b (.slice A1 t.size cap1) (.slice A2 t.gates.length cap2),chV (Q1u t.Q0b [(k:Int)] 0),.int .i64 0] w' fun e w''=>e = .returned (.int .i64 m) /\ Ext w' w'')
      rw [hm] at HST hnw;obtain ⟨pb,hpb⟩:∃ p,(Q6c t k).1 = p:=⟨_,rfl⟩;obtain ⟨pl,hpl⟩:∃ p,(Q6c t k).2 = p:=⟨_,rfl⟩;rw [hpb,hpl];rw [hpl] at HST hnb;have HPB:=Lib.hid hpb;have HPL:=Lib.hid hpl;have hkI:(k:Int) < 12:=by omega
      have hdr:=(Ext.refl wr).drew;have HIN:Hid (∀ x ∈ [(k:Int)],0 <= x /\ x < t.Q0b.length):=Lib.hid (by intro x hx; rw [List.mem_singleton] at hx; rw [hx,HCL.out]; omega)
      clear hm hpb hpl hx;go_wp2;refine Flow.Q2p [.w,.p,.p,.w,.p,.w,.w,.w,.p] [0,1,2,3,4,5,6,7,8] [[],[],[1],[2],[],[4],[3,5],[0,6],[0,1,2,3,4,5,6,7]]
       [.c 0 (noV t t.Q0b (.slice A1 t.size cap1) (.slice A2 t.gates.length cap2)),.c 1 (.pointer (some ⟨w2.heap.size,0,none⟩)),.c 2 (.pointer (some ⟨w2.heap.size,2,none⟩)),.c 3 (chV t.Q0b),.c 4 (.int .i64 k),⟨fun v wz=>Q0e wz (v 5) [(k:Int)],fun _ _ _ hx h=>h.ext hx⟩,.c 6 (chV (Q1u t.Q0b [(k:Int)] 0)),.c 7 (.int .i64 m),.c 8 (.int .i64 m)]
       (by kernel_rfl) rfl (by kernel_rfl) ⟨?g0,?g1,?g2,?g3,?g4,?g5,?g6,?g7,?g8,trivial⟩ ?post
      case g0=>
       intro v w1 hx;intro bb hbb;intro K hK;have o1:bb.eval (.tmp 6) = .pointer (some ⟨w2.heap.size,0,none⟩):=by rw [hbb]; dsimp only; (try simp (discharger:=decide) only [eval_put_ne]); rfl
       exact Q0n (.tmp 6) _ rfl Tryz.Q1s Tryz.Q0r o1 (HB9.out.ext (HX93.out.trans (HX.out.trans (hdr.trans hx)))) rfl (hK _ _ (Ext.refl _) rfl)
      case g1 | g4=>
       intro v w1 hx;intro bb hbb;subst hbb;refine ⟨_,fun w=>?_,rfl⟩;go_simp
      case g2=>
       intro v w1 hx;(repeat intro (zq:v _ = _));intro bb hbb;subst hbb;refine ⟨_,fun w=>?_,rfl⟩;go_simp
      case g3=>
       intro v w1 hx;(repeat intro (zq:v _ = _));intro bb hbb;intro K hK;have o1:bb.eval (.tmp 35) = .pointer (some ⟨w2.heap.size,2,none⟩):=by rw [hbb]; dsimp only; (try simp (discharger:=decide) only [eval_put_ne]); rw [Q0a (by simp only [size_put]; exact (by decide:35 < 60))]; assumption
       exact Q2q (.tmp 35) _ rfl Tryz.Q6u Tryz.Q3z o1 ((Q1w HB9.out).ext (HX93.out.trans (HX.out.trans (hdr.trans hx)))) rfl (hK _ _ (Ext.refl _) rfl)
      case g5=>
       intro v w1 hx;(repeat intro (zq:v _ = _));intro bb hbb;subst hbb;intro K hK;go_simp;exact hK _ _ (Ext.box _ _) (Q3h (l:=[(k:Int)]) (by simp))
      case g6=>
       intro v w1 hx (q3:v 3 = _) (q5:Q0e w1 (v 5) [(k:Int)]);intro bb hbb;subst hbb;intro K hK;go_simp;refine Q0d (set_any w1 t.Q0b [(k:Int)] _ 0 q5 (by rw [HCL.out]; exact hsz) HIN.out) ?_
       rintro e w2 ⟨rfl,hx2⟩;exact ⟨_,rfl,hK _ _ hx2 rfl⟩
      case g7=>
       intro v w1 hx;(repeat intro (zq:v _ = _));intro bb hbb;subst hbb;intro K hK;go_simp;refine Q0d (HW0.out _ (HX93.out.trans (HX.out.trans (hdr.trans hx)))) ?_;rintro e w2 ⟨rfl,hx2⟩;exact ⟨_,rfl,hK _ _ hx2 rfl⟩
      case g8=>
       intro v w1 hx (q0:v 0 = _) (q1:v 1 = _) (q2:v 2 = _) (q3:v 3 = _) (q4:v 4 = _) _ (q6:v 6 = _) (q7:v 7 = _);intro bb hbb;subst hbb;refine ⟨_,fun w=>?_,rfl⟩;go_simp
      case post =>
       intro v w1 hx;(iterate 5 intro (zq:v _ = _));intro (q5:Q0e w1 (v 5) [(k:Int)]);(iterate 3 intro (zq:v _ = _));simp only [Flow.All,Flow.acts,Act.put];go_simp;have HXX2:=Lib.hid (HX.out.trans (hdr.trans hx));clear hx
       by_cases hlt2:m < pl
       . have HL2:=Lib.hid hlt2
         go_wp2;go_roundw
         case rel=>exact ⟨k + 1,by omega,by go_num,by rw [HST.out,if_pos HL2.out],by rw [HST.out,if_pos HL2.out],HXX2.out⟩
         case measure=>simp [intOf]; omega
       . have HL2:=Lib.hid hlt2
         go_wp2;go_roundw
         case rel=>exact ⟨k + 1,by omega,by go_num,by rw [HST.out,if_neg HL2.out,HPB.out],by rw [HST.out,if_neg HL2.out,HPL.out],HXX2.out⟩
         case measure=>simp [intOf]; omega
    . have e:k = t.size:=by omega
      have HPE:Hid (Y7w t = Q6c t k):=Lib.hid (by rw [e]; rfl)
      have hpb:=X4n hsz;have HSM2:Hid (Q6w t = Z7u (lowest (Q6c t k).2 (Q7g 16 t.size)) (lowest all (Q7g 16 t.size))):=Lib.hid (by unfold Q6w; rw [HPE.out,HALL.out])
      rw [HPE.out] at HA HR;obtain ⟨d,hd⟩:∃ d,Q7g 16 t.size = d:=⟨_,rfl⟩;rw [hd] at HR HSM2 hpb;obtain ⟨pb,hpb'⟩:∃ p,(Q6c t k).1 = p:=⟨_,rfl⟩;obtain ⟨pl,hpl'⟩:∃ p,(Q6c t k).2 = p:=⟨_,rfl⟩;rw [hpb'] at HA ⊢;rw [hpl'] at HR HSM2 hnb ⊢;have HP:Hid (∀ w',Calls Tryz.prog 93 #[noV t t.Q0b (.slice A1 t.size cap1) (.slice A2 t.gates.length cap2)] w' fun e w''=>e = .returned (.int .i64 d) /\ Ext w' w''):=by
       exact (by intro w'; rw [<- hd]; exact X1i w' t t.Q0b A1 A2 _ _ _ _ hsz:∀ w',Calls Tryz.prog 93 #[noV t t.Q0b (.slice A1 t.size cap1) (.slice A2 t.gates.length cap2)] w' fun e w''=>e = .returned (.int .i64 d) /\ Ext w' w'')
      have HXR:=Lib.hid (HX93.out.trans HX.out);have HBW:=Lib.hid (HB9.out.ext HXR.out);clear hd hpb' hpl' hx e;go_wp2_with (first | (refine Q0i rfl _ _ rfl Tryz.Q1s Tryz.Q0r rfl HBW.out rfl ?_) | (go_at_call 93; refine (HP.out _).mono ?_; rintro e w4 ⟨rfl,hx4⟩) | (go_at_call 91; refine (Q7w _ pl d hnb.1 (by omega) (by omega) (by omega)).mono ?_; rintro e w5 ⟨rfl,hx5⟩) | (refine Q0c rfl _ _ _ rfl Tryz.Q1q rfl rfl (Blk.made _ _ _) rfl rfl ?_ ?_; (focus (exact Q5z _ _)); intro w6 hb6 hl6 ho6))
      have hx6:Ext w5 w6:=Below.trans (Ext.box w5 _) (hl6 _ (Nat.le_refl _));have hxa:=(hx4.trans hx5).trans hx6;have HBW6:=Lib.hid (HBW.out.ext hxa);have HBR6:=Lib.hid ((HBR.out.ext HX.out).ext hxa);have HXX6:=Lib.hid ((HXX9.out.trans HXR.out).trans hxa);have hbl6:=hb6.lt;obtain ⟨g6,hg6⟩:∃ g,w5.heap.size = g:=⟨_,rfl⟩;have hg6l:w.heap.size + 1 < g6:=by
       have h1:=((HBR.out.ext HX.out).ext (hx4.trans hx5)).lt;omega
      rw [hg6] at hb6 hbl6 ⊢;have HB6:=Lib.hid hb6;obtain ⟨q,hq⟩:∃ q,Z7u (lowest pl d) (lowest all d) = q:=⟨_,rfl⟩;have hdr:=(Ext.refl w6).drew;rw [hq] at HSM2;clear hx4 hx5 hl6 ho6 hx6 hxa hb6 hg6;refine Flow.Q2p [.w,.p,.w,.w,.w,.p] [0,1,2,3,4,5] [[],[],[],[2],[1,3],[0,4]]
       [.c 0 (.agg (Q8u pl d)),.c 1 (.int .i64 all),.c 2 (noV t t.Q0b (.slice A1 t.size cap1) (.slice A2 t.gates.length cap2)),.c 3 (.int .i64 d),.c 4 (.agg (Q8u all d)),.c 5 (.bool q)]
       (by kernel_rfl) rfl (by kernel_rfl) ⟨?g0,?g1,?g2,?g3,?g4,?g5,trivial⟩ ?post
      case g0=>
       intro v w1 hx;intro bb hbb;intro K hK;have o1:bb.eval (.tmp 12) = .pointer (some ⟨g6,0,none⟩):=by rw [hbb]; dsimp only; (try simp (discharger:=decide) only [eval_put_ne]); rfl
       exact Q0n (.tmp 12) _ rfl Tryz.Q5d Tryz.Q1q o1 (HB6.out.ext (hdr.trans hx)) rfl (hK _ _ (Ext.refl _) rfl)
      case g1=>
       intro v w1 hx;intro bb hbb;subst hbb;refine ⟨_,fun w=>?_,rfl⟩;go_simp
      case g2=>
       intro v w1 hx;intro bb hbb;intro K hK;have o1:bb.eval (.tmp 6) = .pointer (some ⟨w2.heap.size,0,none⟩):=by rw [hbb]; dsimp only; (try simp (discharger:=decide) only [eval_put_ne]); rfl
       exact Q0n (.tmp 6) _ rfl Tryz.Q1s Tryz.Q0r o1 (HBW6.out.ext (hdr.trans hx)) rfl (hK _ _ (Ext.refl _) rfl)
      case g3=>
       intro v w1 hx;(repeat intro (zq:v _ = _));intro bb hbb;subst hbb;intro K hK;go_simp;refine Q0d (HP.out _) ?_;rintro e w2 ⟨rfl,hx2⟩;exact ⟨_,rfl,hK _ _ hx2 rfl⟩
      case g4=>
       intro v w1 hx;(repeat intro (zq:v _ = _));intro bb hbb;subst hbb;intro K hK;go_simp;refine Q0d (Q7w _ all d hwb.1 (by omega) (by omega) (by omega)) ?_
       rintro e w2 ⟨rfl,hx2⟩;exact ⟨_,rfl,hK _ _ hx2 rfl⟩
      case g5=>
       intro v w1 hx;(repeat intro (zq:v _ = _));intro bb hbb;subst hbb;refine ⟨_,fun w=>?_,rfl⟩;go_simp
      case post =>
       intro v w1 hx (q0:v 0 = _) (q1:v 1 = _) (q2:v 2 = _);(iterate 3 intro (zq:v _ = _));simp only [Flow.All,Flow.acts,Act.put];go_simp;have hxx:=hdr.trans hx;have HB7:=Lib.hid (HB6.out.ext hxx);have hbr7:=HBR6.out.ext hxx;have HXX7:=Lib.hid (HXX6.out.trans hxx);have HBR7:=Lib.hid hbr7;clear hx hxx hq;cases q with
       | true =>
         go_wp2_with (refine Q0c rfl _ _ _ rfl Tryz.Q1q rfl rfl hbr7 rfl rfl ?_ ?_; (focus (exact Q7i ⟨0,0⟩)); intro w8 hb8 hl8 ho8);refine bodyPost_ret (Q4t Tryz.results45 rfl hb8 Tryz.Q5d Tryz.Q1q rfl rfl) rfl ?_;exact ⟨by rw [HA.out,HR.out,HRE.out,HSM2.out]; rfl,Below.trans HXX7.out (hl8 _ (by omega))⟩
       | false =>
         clear hbr7;have hdr:=(Ext.refl w1).drew;go_wp2;refine Flow.Q3x [.p,.w,.p,.last,.last] [0,1,2,3,4] [[],[],[0],[0,1,2],[0,1,2,3]] [3,4]
          [.c 0 (.int .i64 pb),.c 1 (.agg (Q8u pl d)),.c 2 (.int .i64 pb),.none,.none]
          [fun v w1 w'=>Blk w' (w.heap.size + 1) 52 (Q8u pl d) /\ Below w.heap.size w1 w',fun v w1 w'=>v 4 = .int .i64 0 /\ Blk w' (w.heap.size + 1) 52 (Q8u pl d) /\ Below w.heap.size w1 w'] (by kernel_rfl) rfl (by kernel_rfl) ⟨?g0,?g1,?g2,?g3,?g4,trivial⟩ ?post
         case g0=>
          intro v w1 hx;intro bb hbb;subst hbb;refine ⟨_,fun w=>?_,rfl⟩;go_simp
         case g1=>
          intro v w1 hx;intro bb hbb;intro K hK;have o1:bb.eval (.tmp 12) = .pointer (some ⟨g6,0,none⟩):=by rw [hbb]; dsimp only; (try simp (discharger:=decide) only [eval_put_ne]); rfl
          exact Q0n (.tmp 12) _ rfl Tryz.Q5d Tryz.Q1q o1 (HB7.out.ext (hdr.trans hx)) rfl (hK _ _ (Ext.refl _) rfl)
         case g2=>
          intro v w1 hx;(repeat intro (zq:v _ = _));intro bb hbb;subst hbb;refine ⟨_,fun w=>?_,rfl⟩;go_simp
         case g3=>
          intro v w1 hx;(repeat intro (zq:v _ = _));intro wl hT;obtain rfl:wl = w1:=hT;intro bb hbb;intro K hK;have o1:bb.eval (.tmp 3) = .pointer (some ⟨w.heap.size + 1,0,none⟩):=by rw [hbb]; dsimp only; (try simp (discharger:=decide) only [eval_put_ne]); rfl
          have o2:bb.eval (.tmp 59) = .agg (Q8u pl d):=by rw [hbb]; dsimp only; (try simp (discharger:=decide) only [eval_put_ne]); rw [Q0a (by simp only [size_put]; exact (by decide:59 < 60))]; assumption
          exact Q2z (.tmp 3) (.tmp 59) _ rfl Tryz.Q1q o1 o2 (HBR7.out.ext (hdr.trans hx)) rfl rfl (Q5z _ _) (fun vv w' hb hl ho=>hK _ _ ⟨hb,hl _ (by omega)⟩)
         case g4=>
          intro v w1 hx;(repeat intro (zq:v _ = _));intro wl hT;replace hT:(fun v w1 w'=>Blk w' (w.heap.size + 1) 52 (Q8u pl d) /\ Below w.heap.size w1 w') v w1 wl:=hT;intro bb hbb;subst hbb;intro K hK;go_simp;exact hK _ _ ⟨rfl,hT⟩
         case post =>
          intro v w1 hx;(iterate 3 intro (zq:v _ = _));intro w2 hE;replace hE:(fun v w1 w'=>v 4 = .int .i64 0 /\ Blk w' (w.heap.size + 1) 52 (Q8u pl d) /\ Below w.heap.size w1 w') v w1 w2:=hE;simp only [Flow.acts,Act.put];go_simp;obtain ⟨hz9,hb8,hl8⟩:=hE;go_wp2;refine bodyPost_ret (Q4t Tryz.results45 rfl hb8 Tryz.Q5d Tryz.Q1q rfl rfl) rfl ?_;exact ⟨by rw [HA.out,HR.out,HRE.out,HSM2.out]; simp [hz9]; rfl,Below.trans (HXX7.out.trans (hdr.trans hx)) hl8⟩
 . have HA:Hid (X7r t = 0):=Lib.hid (by unfold X7r; rw [if_neg he])
   have HR:Hid (nextR t = ⟨0,0⟩):=Lib.hid (by unfold nextR; rw [if_neg he])
   have HRE:Hid (X2m t = t.err):=Lib.hid (by unfold X2m; rw [if_neg he])
   have hne:(t.err != 0) = true:=by simp [he]
   clear he;go_wp2_with (refine Q0c rfl _ _ _ rfl Tryz.Q1q rfl rfl hbr rfl rfl ?_ ?_; (focus (exact Q7i ⟨0,0⟩)); intro w8 hb8 hl8 ho8);refine bodyPost_ret (Q4t Tryz.results45 rfl hb8 Tryz.Q5d Tryz.Q1q rfl rfl) rfl ?_;exact ⟨by rw [HA.out,HR.out,HRE.out]; rfl,Below.trans HXX.out (hl8 _ (by omega))⟩
end Go.Proofs
