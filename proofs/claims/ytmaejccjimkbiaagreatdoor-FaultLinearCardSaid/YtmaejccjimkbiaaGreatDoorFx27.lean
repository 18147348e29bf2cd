/- Contracts: Next. -/
import Derived.Test.YtmaejccjimkbiaaGreatDoorFx26
set_option linter.unusedVariables false
set_option linter.unusedSimpArgs false
set_option linter.constructorNameAsVariable false
namespace Go.Proofs
open Go.RowKit Go.Tw Go.Flow
def Z3h (r s:Ratio):Bool:=r.num == s.num && r.den == s.den
theorem X0k (w:World) (r s:Ratio):(binOp .eql 59 (.agg (encR r)) (.agg (encR s))).run Tryz.prog w = .ok (.bool (Z3h r s)) w:=by
 have u3:=Tryz.underlying3;have a3:∀ w,(isAgg 3).run Tryz.prog w = .ok false w:=fun w=>by kernel_rfl
 have z3:∀ w,(sizeOf 3).run Tryz.prog w = .ok 1 w:=fun w=>by kernel_rfl
 have hS:Tryz.prog.underlying 59 = some (.struct (Tryz.prog.fieldsOf 59)):=by kernel_rfl
 have hp:Tryz.prog.stoodInHeld 59 = false:=by kernel_rfl
 simp only [encR];rw [run_eql_struct,show (10000:Nat) = 9999 + 1 from rfl,run_equalIn_agg w 9999 59 _ _ hS hp]
 simp only [Program.fieldsOf,Tryz.underlying59];unfold Z3h;go_simp
 by_cases h1:r.num = s.num <;> by_cases h2:r.den = s.den <;> simp [h1,h2]
theorem Y0l (w:World) (a b c d:Int):(binOp .eql 59 (.agg (Q5o a b)) (.agg (Q5o c d))).run Tryz.prog w = .ok (.bool (Z3h (lowest a b) (lowest c d))) w:=X0k w _ _
theorem Q4w {P:Program} {fn:Func} {p q r:Tmp} {T:TypeId} (h:fn.results = #[.tmp p,.cell q T,.tmp r]) {tmps:Array Value} {w:World} {g:Nat} (ht:tmps.getD q undef = .pointer (some ⟨g,0,none⟩)) {BT:TypeId} {cs:Array Value} (hb:Blk w g BT cs)
    (hA:∀ w,(isAgg T).run P w = .ok true w) (hS:∀ w,(sizeOf T).run P w = .ok cs.size w) {u v:Value} (hp:tmps.getD p undef = u) (hr:tmps.getD r undef = v):(results fn tmps).run P w = .ok (.tuple #[u,.agg cs,v]) w:=by
 unfold results;rw [h];simp only [List.mapM_toArray,List.mapM_cons,List.mapM_nil,Sem.run_bind,Sem.run_pure,ht,hp,hr,asAddr];simp [Q3t hb hA hS]
def Y3i (t:Tree) (k:Nat):Int:=Q1g t (Q0t t.Q0b [(k:Int)] 0) 0
def Z1n (t:Tree) (p:Nat × Int) (k:Nat):Nat × Int:=if Y3i t k < p.2 then (k,Y3i t k) else p
def Q5b (t:Tree):Nat → Nat × Int
 | 0=>(0,Q1g t t.Q0b 0)
 | k + 1=>Z1n t (Q5b t k) k
def X8q (t:Tree):Nat × Int:=Q5b t t.size
def Q4p (t:Tree):Bool:=Z3h (lowest (X8q t).2 (Q5n 16 t.size)) (lowest (Q1g t t.Q0b 0) (Q5n 16 t.size))
def Q9a (t:Tree):Int:=if t.err = 0 then (if Q4p t then 7 else 0) else t.err
def X3g (t:Tree):Nat:=if t.err = 0 then (if Q4p t then 0 else (X8q t).1) else 0
def nextR (t:Tree):Ratio:=if t.err = 0 then (if Q4p t then ⟨0,0⟩ else lowest (X8q t).2 (Q5n 16 t.size)) else ⟨0,0⟩
theorem Y4h {t:Tree} (hv:Valid t) (k:Nat):0 ≤ Y3i t k ∧ Y3i t k ≤ 1152921504606846976:=Q4z (Small.put hv.small (by omega) (by omega)) t 0 hv.size
theorem X8x {t:Tree} (hv:Valid t):∀ k,0 ≤ (Q5b t k).2 ∧ (Q5b t k).2 ≤ 1152921504606846976
 | 0=>Q4z hv.small t 0 hv.size
 | k + 1=>by
   have h1:=X8x hv k;have h2:=Y4h hv k;show 0 ≤ (if _ then _ else _:Nat × Int).2 ∧ (if _ then _ else _:Nat × Int).2 ≤ _
   split <;> assumption
attribute [local go_sem ↓] Y0l
set_option maxRecDepth 100000 in
set_option maxHeartbeats 2000000 in
theorem Y7p (w:World) (v:Value) (t:Tree) (ht:IsTree w v t) :
    Calls Tryz.prog 51 #[v] w fun e w'=>e = .returned (.tuple #[.int .i64 (X3g t),.agg (encR (nextR t)),.int .i64 (Q9a t)]) ∧ Ext w w':=by
 obtain ⟨a,b,c,rfl,h3⟩:=ht;obtain ⟨A,capa,rfl,hl1,hcap1,_⟩:=h3.basics.opened;obtain ⟨B,capb,rfl,hl2,hcap2,_⟩:=h3.causes.opened;obtain ⟨G,capg,rfl,hl3,hcap3,_⟩:=h3.gates.opened;have HT0:=Lib.hid h3;clear h3;go_enter Tryz.func51,Tryz.ntmps51;go_wp2_with fail;change Calls _ _ _ ((w.alloc (.cells #[.slice A t.basics.length capa,.slice B t.causes.length capb,.slice G t.gates.length capg] 37)).alloc (.cells #[.int .i64 0,.int .i64 0] 59)) _;have k0:=Blk.made w 37 #[.slice A t.basics.length capa,.slice B t.causes.length capb,.slice G t.gates.length capg];have x0:=Ext.box w (.cells #[.slice A t.basics.length capa,.slice B t.causes.length capb,.slice G t.gates.length capg] 37);have es0:(w.alloc (.cells #[.slice A t.basics.length capa,.slice B t.causes.length capb,.slice G t.gates.length capg] 37)).heap.size = w.heap.size + 1:=by simp
 obtain ⟨X0,hX0⟩:∃ X,w.alloc (.cells #[.slice A t.basics.length capa,.slice B t.causes.length capb,.slice G t.gates.length capg] 37) = X:=⟨_,rfl⟩;rw [hX0] at k0 x0 es0 ⊢;clear hX0;have k1:=Blk.made X0 59 #[.int .i64 0,.int .i64 0];have x1:=Ext.box X0 (.cells #[.int .i64 0,.int .i64 0] 59);have es1:(X0.alloc (.cells #[.int .i64 0,.int .i64 0] 59)).heap.size = X0.heap.size + 1:=by simp
 obtain ⟨X1,hX1⟩:∃ X,X0.alloc (.cells #[.int .i64 0,.int .i64 0] 59) = X:=⟨_,rfl⟩;rw [hX1] at k1 x1 es1 ⊢;clear hX1;replace k0:=k0.ext x1;have e0:X0.heap.size = w.heap.size + 1:=by omega
 have e1:X1.heap.size = w.heap.size + 1 + 1:=by omega
 rw [e0] at k1;have HXW:Hid (Ext w X1):=by exact (Ext.trans (x0) x1:Ext w X1)
 have eW:X1.heap.size = w.heap.size + 1 + 1:=e1;clear x0 es0 e0 x1 es1 e1;obtain ⟨W,hWW⟩:∃ W,X1 = W:=⟨_,rfl⟩;rw [hWW] at HXW eW ⊢ k0 k1;clear hWW;have HT:=Lib.hid (HT0.out.ext HXW.out);refine (Q2j _ _ t ⟨_,_,_,rfl,HT.out⟩).mono ?_;rintro e w1 ⟨rfl,hx1⟩;have kt:=k0.ext hx1;have c0:=kt.cell 0;have c1:=kt.cell 1;have c2:=kt.cell 2;simp only [List.getElem?_toArray,List.getElem?_cons_zero,List.getElem?_cons_succ] at c0 c1 c2;have HXX:=Lib.hid (HXW.out.trans hx1);have HX1:=Lib.hid hx1;clear kt hx1;have hbr:=k1.ext HX1.out;clear k0 k1
 by_cases he:t.err = 0
 · have HA:Hid (X3g t = if Q4p t then 0 else (X8q t).1):=by exact (by unfold X3g; rw [if_pos he]:X3g t = if Q4p t then 0 else (X8q t).1)
   have HR:Hid (nextR t = if Q4p t then ⟨0,0⟩ else lowest (X8q t).2 (Q5n 16 t.size)):=by exact (by unfold nextR; rw [if_pos he]:nextR t = if Q4p t then ⟨0,0⟩ else lowest (X8q t).2 (Q5n 16 t.size))
   have HRE:Hid (Q9a t = if Q4p t then 7 else 0):=by exact (by unfold Q9a; rw [if_pos he]:Q9a t = if Q4p t then 7 else 0)
   have hV:=Valid.of he;have HV:=Lib.hid hV;have HE0:=Lib.hid he;have hsz:=hV.size;have hne:(t.err != 0) = false:=by simp [he]
   clear he hV;go_wp2_with fail;refine (Q3o _ _ t HV.out ⟨_,_,_,rfl,HT.out.ext HX1.out⟩).mono ?_;rintro e w2 ⟨fv,gv,rfl,hn,hx2⟩;obtain ⟨A1,cap1,rfl,_,_,_⟩:=hn.fails.opened;obtain ⟨A2,cap2,rfl,_,_,_⟩:=hn.gates.opened;rw [Q2o] at hn ⊢;have HN:=Lib.hid hn;have HX2:=Lib.hid hx2;clear hn hx2 c0 c1 c2;replace hbr:=hbr.ext HX2.out;have hbl:=hbr.lt;go_wp2_with (first | (refine Q0j rfl _ 121 rfl Tryz.Q1s Tryz.Q0r rfl hb9 rfl ?_) | (refine Q2b rfl _ 116 rfl Tryz.Q6x Tryz.Q4a rfl (Q2a hb9) rfl ?_) | (refine Q0d rfl _ _ 121 rfl Tryz.Q0r rfl rfl (Blk.made _ _ _) rfl rfl ?_ ?_; (focus (intro u hu; simp [outA] at hu; rcases hu with rfl | rfl | rfl | rfl | rfl | rfl | rfl | rfl | rfl | rfl | rfl | rfl | rfl | rfl | rfl | rfl <;> rfl)); intro w9 hb9 hl9 ho9) | fail)
   have hx9:Ext w2 w9:=Below.trans (Ext.box w2 _) (hl9 _ (Nat.le_refl _));have HXX9:Hid (Ext w w9):=by exact (HXX.out.trans HX2.out).trans hx9
   have HN9:=Lib.hid (HN.out.ext hx9);replace hbr:=hbr.ext hx9;have HB9:=Lib.hid hb9;have HCL:=Lib.hid (Q4v t);have HSM:=Lib.hid HV.out.small;clear hl9 ho9 hb9 hx9;refine (Q4u _ _ _ t t.Q0b t.Q0b 0 HV.out HN9.out HSM.out HCL.out (by omega)).mono ?_
   rintro e w3 ⟨rfl,hx3⟩;clear HX1;have HX93:=Lib.hid hx3;have HBR:=Lib.hid (hbr.ext hx3);have hw2l:=hbl;have HSTART:Hid (Q1g t t.Q0b 0 = (Q5b t 0).2):=by exact (rfl:Q1g t t.Q0b 0 = (Q5b t 0).2)
   have s0:=(HB9.out.ext hx3).cell 0;simp only [outA,List.getElem?_toArray,List.getElem?_cons_zero] at s0;have hwb:=Q4z HSM.out t 0 hsz;obtain ⟨all,hall⟩:∃ m,Q1g t t.Q0b 0 = m:=⟨_,rfl⟩;rw [hall] at HSTART hwb ⊢;have HALL:=Lib.hid hall;clear hbr hx3 hall hbl;go_wp2
   go_loopw [8,9,30] (fun b l i wr=>∃ (k:Nat),k ≤ t.size ∧ i = .int .i64 k ∧ b = .int .i64 (Q5b t k).1 ∧ l = .int .i64 (Q5b t k).2 ∧ Ext w3 wr) (fun _ _ i _=>t.size - (intOf i).toNat)
   case atStart=>exact ⟨0,Nat.zero_le _,rfl,rfl,by rw [HSTART.out],Ext.refl _⟩
   case round =>
    obtain ⟨k,hk,rfl,rfl,rfl,hx⟩:=hrel;have hnb:=X8x HV.out k;have HX:=Lib.hid hx
    by_cases hlt:k < t.size
    · have HST:Hid (Q5b t (k + 1) = if Y3i t k < (Q5b t k).2 then (k,Y3i t k) else Q5b t k):=by exact (rfl:Q5b t (k + 1) = _)
      have hnw:=Y4h HV.out k;have HS0:=Lib.hid (Small.put (l:=[(k:Int)]) HSM.out (n:=0) (by omega) (by omega))
      obtain ⟨m,hm⟩:∃ m,Y3i t k = m:=⟨_,rfl⟩;have HW0:Hid (∀ w',Ext w9 w' → Calls Tryz.prog 100 #[noV t t.Q0b (.slice A1 t.size cap1) (.slice A2 t.gates.length cap2),chV (Q0t t.Q0b [(k:Int)] 0),.int .i64 0] w' fun e w''=>e = .returned (.int .i64 m) ∧ Ext w' w''):=by
       exact (by intro w' hx; rw [← hm]; exact Q4u w' _ _ t t.Q0b _ 0 HV.out (HN9.out.ext hx) HS0.out (by rw [Q8a,HCL.out]) (by omega):∀ w',Ext w9 w' → Calls Tryz.prog 100 #[noV t t.Q0b (.slice A1 t.size cap1) (.slice A2 t.gates.length cap2),chV (Q0t t.Q0b [(k:Int)] 0),.int .i64 0] w' fun e w''=>e = .returned (.int .i64 m) ∧ Ext w' w'')
      rw [hm] at HST hnw;obtain ⟨pb,hpb⟩:∃ p,(Q5b t k).1 = p:=⟨_,rfl⟩;obtain ⟨pl,hpl⟩:∃ p,(Q5b t k).2 = p:=⟨_,rfl⟩;rw [hpb,hpl];rw [hpl] at HST hnb;have HPB:=Lib.hid hpb;have HPL:=Lib.hid hpl;have hkI:(k:Int) < 12:=by omega
      have hdr:=(Ext.refl wr).drew;have HIN:Hid (∀ x ∈ [(k:Int)],0 ≤ x ∧ x < t.Q0b.length):=by exact (by intro x hx; rw [List.mem_singleton] at hx; rw [hx,HCL.out]; omega:∀ x ∈ [(k:Int)],0 ≤ x ∧ x < t.Q0b.length)
      clear hm hpb hpl hx;go_wp2;refine Flow.Q3g [.world,.plain,.plain,.world,.plain,.world,.world,.world,.plain] [0,1,2,3,4,5,6,7,8] [[],[],[1],[2],[],[4],[3,5],[0,6],[0,1,2,3,4,5,6,7]]
       [.is 0 (fun v=>noV t t.Q0b (.slice A1 t.size cap1) (.slice A2 t.gates.length cap2)),.is 1 (fun v=>.pointer (some ⟨w2.heap.size,0,none⟩)),.is 2 (fun v=>.pointer (some ⟨w2.heap.size,2,none⟩)),.is 3 (fun v=>chV t.Q0b),.is 4 (fun v=>.int .i64 k),⟨fun v wz=>Q0f wz (v 5) [(k:Int)],fun _ _ _ hx h=>h.ext hx⟩,.is 6 (fun v=>chV (Q0t t.Q0b [(k:Int)] 0)),.is 7 (fun v=>.int .i64 m),.is 8 (fun v=>.int .i64 m)]
       (by kernel_rfl) rfl (by kernel_rfl) ⟨?g0,?g1,?g2,?g3,?g4,?g5,?g6,?g7,?g8,trivial⟩ ?post
      case g0 =>
       intro v w1 hx;intro bb hbb;intro K hK;have o1:bb.eval (.tmp 6) = .pointer (some ⟨w2.heap.size,0,none⟩):=by rw [hbb]; dsimp only; (try simp (discharger:=decide) only [eval_put_ne]); rfl
       exact Q0n (.tmp 6) _ rfl Tryz.Q1s Tryz.Q0r o1 (HB9.out.ext (HX93.out.trans (HX.out.trans (hdr.trans hx)))) rfl (hK _ _ (Ext.refl _) rfl)
      case g1 =>
       intro v w1 hx;intro bb hbb;subst hbb;refine ⟨_,fun w=>?_,rfl⟩;go_simp
      case g2 =>
       intro v w1 hx (q1:v 1 = .pointer (some ⟨w2.heap.size,0,none⟩));intro bb hbb;subst hbb;refine ⟨_,fun w=>?_,rfl⟩;go_simp
      case g3 =>
       intro v w1 hx (q2:v 2 = .pointer (some ⟨w2.heap.size,2,none⟩));intro bb hbb;intro K hK;have o1:bb.eval (.tmp 35) = .pointer (some ⟨w2.heap.size,2,none⟩):=by rw [hbb]; dsimp only; (try simp (discharger:=decide) only [eval_put_ne]); rw [Q0a (by simp only [size_put]; exact (by decide:35 < 60))]; exact q2
       exact Q3b (.tmp 35) _ rfl Tryz.Q6x Tryz.Q4a o1 ((Q2a HB9.out).ext (HX93.out.trans (HX.out.trans (hdr.trans hx)))) rfl (hK _ _ (Ext.refl _) rfl)
      case g4 =>
       intro v w1 hx;intro bb hbb;subst hbb;refine ⟨_,fun w=>?_,rfl⟩;go_simp
      case g5 =>
       intro v w1 hx (q4:v 4 = .int .i64 k);intro bb hbb;subst hbb;intro K hK;go_simp;exact hK _ _ (Ext.box _ _) (Q2m (l:=[(k:Int)]) (by simp))
      case g6 =>
       intro v w1 hx (q3:v 3 = chV t.Q0b) (q5:Q0f w1 (v 5) [(k:Int)]);intro bb hbb;subst hbb;intro K hK;go_simp;refine Q0e (set_any w1 t.Q0b [(k:Int)] _ 0 q5 (by rw [HCL.out]; exact hsz) HIN.out) ?_
       rintro e w2 ⟨rfl,hx2⟩;exact ⟨_,rfl,hK _ _ hx2 rfl⟩
      case g7 =>
       intro v w1 hx (q0:v 0 = noV t t.Q0b (.slice A1 t.size cap1) (.slice A2 t.gates.length cap2)) (q6:v 6 = chV (Q0t t.Q0b [(k:Int)] 0));intro bb hbb;subst hbb;intro K hK;go_simp;refine Q0e (HW0.out _ (HX93.out.trans (HX.out.trans (hdr.trans hx)))) ?_;rintro e w2 ⟨rfl,hx2⟩;exact ⟨_,rfl,hK _ _ hx2 rfl⟩
      case g8 =>
       intro v w1 hx (q0:v 0 = noV t t.Q0b (.slice A1 t.size cap1) (.slice A2 t.gates.length cap2)) (q1:v 1 = .pointer (some ⟨w2.heap.size,0,none⟩)) (q2:v 2 = .pointer (some ⟨w2.heap.size,2,none⟩)) (q3:v 3 = chV t.Q0b) (q4:v 4 = .int .i64 k) (q5:Q0f w1 (v 5) [(k:Int)]) (q6:v 6 = chV (Q0t t.Q0b [(k:Int)] 0)) (q7:v 7 = .int .i64 m);intro bb hbb;subst hbb;refine ⟨_,fun w=>?_,rfl⟩;go_simp
      case post =>
       intro v w1 hx (q0:v 0 = noV t t.Q0b (.slice A1 t.size cap1) (.slice A2 t.gates.length cap2)) (q1:v 1 = .pointer (some ⟨w2.heap.size,0,none⟩)) (q2:v 2 = .pointer (some ⟨w2.heap.size,2,none⟩)) (q3:v 3 = chV t.Q0b) (q4:v 4 = .int .i64 k) (q5:Q0f w1 (v 5) [(k:Int)]) (q6:v 6 = chV (Q0t t.Q0b [(k:Int)] 0)) (q7:v 7 = .int .i64 m) (q8:v 8 = .int .i64 m);simp only [Flow.All,Flow.acts,Act.put];go_simp;have HXX2:=Lib.hid (HX.out.trans (hdr.trans hx));clear hx
       by_cases hlt2:m < pl
       · have HL2:=Lib.hid hlt2
         go_wp2;go_roundw
         case rel=>exact ⟨k + 1,by omega,by go_num,by rw [HST.out,if_pos HL2.out],by rw [HST.out,if_pos HL2.out],HXX2.out⟩
         case measure=>simp [intOf]; omega
       · have HL2:=Lib.hid hlt2
         go_wp2;go_roundw
         case rel=>exact ⟨k + 1,by omega,by go_num,by rw [HST.out,if_neg HL2.out,HPB.out],by rw [HST.out,if_neg HL2.out,HPL.out],HXX2.out⟩
         case measure=>simp [intOf]; omega
    · have e:k = t.size:=by omega
      have HPE:Hid (X8q t = Q5b t k):=by exact (by rw [e]; rfl:X8q t = Q5b t k)
      have hpb:=X4s hsz;have HSM2:Hid (Q4p t = Z3h (lowest (Q5b t k).2 (Q5n 16 t.size)) (lowest all (Q5n 16 t.size))):=by exact (by unfold Q4p; rw [HPE.out,HALL.out]:Q4p t = Z3h (lowest (Q5b t k).2 (Q5n 16 t.size)) (lowest all (Q5n 16 t.size)))
      rw [HPE.out] at HA HR;obtain ⟨d,hd⟩:∃ d,Q5n 16 t.size = d:=⟨_,rfl⟩;rw [hd] at HR HSM2 hpb;obtain ⟨pb,hpb'⟩:∃ p,(Q5b t k).1 = p:=⟨_,rfl⟩;obtain ⟨pl,hpl'⟩:∃ p,(Q5b t k).2 = p:=⟨_,rfl⟩;rw [hpb'] at HA ⊢;rw [hpl'] at HR HSM2 hnb ⊢;have HP:Hid (∀ w',Calls Tryz.prog 101 #[noV t t.Q0b (.slice A1 t.size cap1) (.slice A2 t.gates.length cap2)] w' fun e w''=>e = .returned (.int .i64 d) ∧ Ext w' w''):=by
       exact (by intro w'; rw [← hd]; exact X0x w' t t.Q0b A1 A2 _ _ _ _ hsz:∀ w',Calls Tryz.prog 101 #[noV t t.Q0b (.slice A1 t.size cap1) (.slice A2 t.gates.length cap2)] w' fun e w''=>e = .returned (.int .i64 d) ∧ Ext w' w'')
      have HXR:=Lib.hid (HX93.out.trans HX.out);have HBW:=Lib.hid (HB9.out.ext HXR.out);clear hd hpb' hpl' hx e;go_wp2_with (first | (refine Q0j rfl _ _ rfl Tryz.Q1s Tryz.Q0r rfl HBW.out rfl ?_) | (go_at_call 101; refine (HP.out _).mono ?_; rintro e w4 ⟨rfl,hx4⟩) | (go_at_call 99; refine (Q7z _ pl d hnb.1 (by omega) (by omega) (by omega)).mono ?_; rintro e w5 ⟨rfl,hx5⟩) | (refine Q0d rfl _ _ _ rfl Tryz.Q1v rfl rfl (Blk.made _ _ _) rfl rfl ?_ ?_; (focus (exact Q5t _ _)); intro w6 hb6 hl6 ho6))
      have hx6:Ext w5 w6:=Below.trans (Ext.box w5 _) (hl6 _ (Nat.le_refl _));have hxa:=(hx4.trans hx5).trans hx6;have HBW6:=Lib.hid (HBW.out.ext hxa);have HBR6:=Lib.hid ((HBR.out.ext HX.out).ext hxa);have HXX6:=Lib.hid ((HXX9.out.trans HXR.out).trans hxa);have hbl6:=hb6.lt;obtain ⟨g6,hg6⟩:∃ g,w5.heap.size = g:=⟨_,rfl⟩;have hg6l:w.heap.size + 1 < g6:=by
       have h1:=((HBR.out.ext HX.out).ext (hx4.trans hx5)).lt;omega
      rw [hg6] at hb6 hbl6 ⊢;have HB6:=Lib.hid hb6;obtain ⟨q,hq⟩:∃ q,Z3h (lowest pl d) (lowest all d) = q:=⟨_,rfl⟩;have hdr:=(Ext.refl w6).drew;rw [hq] at HSM2;clear hx4 hx5 hl6 ho6 hx6 hxa hb6 hg6;refine Flow.Q3g [.world,.plain,.world,.world,.world,.plain] [0,1,2,3,4,5] [[],[],[],[2],[1,3],[0,4]]
       [.is 0 (fun v=>.agg (Q5o pl d)),.is 1 (fun v=>.int .i64 all),.is 2 (fun v=>noV t t.Q0b (.slice A1 t.size cap1) (.slice A2 t.gates.length cap2)),.is 3 (fun v=>.int .i64 d),.is 4 (fun v=>.agg (Q5o all d)),.is 5 (fun v=>.bool q)]
       (by kernel_rfl) rfl (by kernel_rfl) ⟨?g0,?g1,?g2,?g3,?g4,?g5,trivial⟩ ?post
      case g0 =>
       intro v w1 hx;intro bb hbb;intro K hK;have o1:bb.eval (.tmp 12) = .pointer (some ⟨g6,0,none⟩):=by rw [hbb]; dsimp only; (try simp (discharger:=decide) only [eval_put_ne]); rfl
       exact Q0n (.tmp 12) _ rfl Tryz.Q5e Tryz.Q1v o1 (HB6.out.ext (hdr.trans hx)) rfl (hK _ _ (Ext.refl _) rfl)
      case g1 =>
       intro v w1 hx;intro bb hbb;subst hbb;refine ⟨_,fun w=>?_,rfl⟩;go_simp
      case g2 =>
       intro v w1 hx;intro bb hbb;intro K hK;have o1:bb.eval (.tmp 6) = .pointer (some ⟨w2.heap.size,0,none⟩):=by rw [hbb]; dsimp only; (try simp (discharger:=decide) only [eval_put_ne]); rfl
       exact Q0n (.tmp 6) _ rfl Tryz.Q1s Tryz.Q0r o1 (HBW6.out.ext (hdr.trans hx)) rfl (hK _ _ (Ext.refl _) rfl)
      case g3 =>
       intro v w1 hx (q2:v 2 = noV t t.Q0b (.slice A1 t.size cap1) (.slice A2 t.gates.length cap2));intro bb hbb;subst hbb;intro K hK;go_simp;refine Q0e (HP.out _) ?_;rintro e w2 ⟨rfl,hx2⟩;exact ⟨_,rfl,hK _ _ hx2 rfl⟩
      case g4 =>
       intro v w1 hx (q1:v 1 = .int .i64 all) (q3:v 3 = .int .i64 d);intro bb hbb;subst hbb;intro K hK;go_simp;refine Q0e (Q7z _ all d hwb.1 (by omega) (by omega) (by omega)) ?_
       rintro e w2 ⟨rfl,hx2⟩;exact ⟨_,rfl,hK _ _ hx2 rfl⟩
      case g5 =>
       intro v w1 hx (q0:v 0 = .agg (Q5o pl d)) (q4:v 4 = .agg (Q5o all d));intro bb hbb;subst hbb;refine ⟨_,fun w=>?_,rfl⟩;go_simp
      case post =>
       intro v w1 hx (q0:v 0 = .agg (Q5o pl d)) (q1:v 1 = .int .i64 all) (q2:v 2 = noV t t.Q0b (.slice A1 t.size cap1) (.slice A2 t.gates.length cap2)) (q3:v 3 = .int .i64 d) (q4:v 4 = .agg (Q5o all d)) (q5:v 5 = .bool q);simp only [Flow.All,Flow.acts,Act.put];go_simp;have hxx:=hdr.trans hx;have HB7:=Lib.hid (HB6.out.ext hxx);have hbr7:=HBR6.out.ext hxx;have HXX7:=Lib.hid (HXX6.out.trans hxx);have HBR7:=Lib.hid hbr7;clear hx hxx hq;cases q with
       | true =>
         go_wp2_with (refine Q0d rfl _ _ _ rfl Tryz.Q1v rfl rfl hbr7 rfl rfl ?_ ?_; (focus (exact Q7e ⟨0,0⟩)); intro w8 hb8 hl8 ho8);refine bodyPost_ret (Q4w Tryz.results51 rfl hb8 Tryz.Q5e Tryz.Q1v rfl rfl) rfl ?_;exact ⟨by rw [HA.out,HR.out,HRE.out,HSM2.out]; rfl,Below.trans HXX7.out (hl8 _ (by omega))⟩
       | false =>
         clear hbr7;have hdr:=(Ext.refl w1).drew;go_wp2;refine Flow.Q3v [.plain,.world,.plain,.last,.last] [0,1,2,3,4] [[],[],[0],[0,1,2],[0,1,2,3]] [3,4]
          [.is 0 (fun v=>.int .i64 pb),.is 1 (fun v=>.agg (Q5o pl d)),.is 2 (fun v=>.int .i64 pb),.none,.none]
          [fun v w1 w'=>Blk w' (w.heap.size + 1) 59 (Q5o pl d) ∧ Below w.heap.size w1 w',fun v w1 w'=>v 4 = .int .i64 0 ∧ Blk w' (w.heap.size + 1) 59 (Q5o pl d) ∧ Below w.heap.size w1 w'] (by kernel_rfl) rfl (by kernel_rfl) ⟨?g0,?g1,?g2,?g3,?g4,trivial⟩ ?post
         case g0 =>
          intro v w1 hx;intro bb hbb;subst hbb;refine ⟨_,fun w=>?_,rfl⟩;go_simp
         case g1 =>
          intro v w1 hx;intro bb hbb;intro K hK;have o1:bb.eval (.tmp 12) = .pointer (some ⟨g6,0,none⟩):=by rw [hbb]; dsimp only; (try simp (discharger:=decide) only [eval_put_ne]); rfl
          exact Q0n (.tmp 12) _ rfl Tryz.Q5e Tryz.Q1v o1 (HB7.out.ext (hdr.trans hx)) rfl (hK _ _ (Ext.refl _) rfl)
         case g2 =>
          intro v w1 hx (q0:v 0 = .int .i64 pb);intro bb hbb;subst hbb;refine ⟨_,fun w=>?_,rfl⟩;go_simp
         case g3 =>
          intro v w1 hx (q0:v 0 = .int .i64 pb) (q1:v 1 = .agg (Q5o pl d)) (q2:v 2 = .int .i64 pb);intro wl hT;obtain rfl:wl = w1:=hT;intro bb hbb;intro K hK;have o1:bb.eval (.tmp 3) = .pointer (some ⟨w.heap.size + 1,0,none⟩):=by rw [hbb]; dsimp only; (try simp (discharger:=decide) only [eval_put_ne]); rfl
          have o2:bb.eval (.tmp 59) = .agg (Q5o pl d):=by rw [hbb]; dsimp only; (try simp (discharger:=decide) only [eval_put_ne]); rw [Q0a (by simp only [size_put]; exact (by decide:59 < 60))]; exact q1
          exact Q2p (.tmp 3) (.tmp 59) _ rfl Tryz.Q1v o1 o2 (HBR7.out.ext (hdr.trans hx)) rfl rfl (Q5t _ _) (fun vv w' hb hl ho=>hK _ _ ⟨hb,hl _ (by omega)⟩)
         case g4 =>
          intro v w1 hx (q0:v 0 = .int .i64 pb) (q1:v 1 = .agg (Q5o pl d)) (q2:v 2 = .int .i64 pb);intro wl hT;replace hT:(fun v w1 w'=>Blk w' (w.heap.size + 1) 59 (Q5o pl d) ∧ Below w.heap.size w1 w') v w1 wl:=hT;intro bb hbb;subst hbb;intro K hK;go_simp;exact hK _ _ ⟨rfl,hT⟩
         case post =>
          intro v w1 hx (q0:v 0 = .int .i64 pb) (q1:v 1 = .agg (Q5o pl d)) (q2:v 2 = .int .i64 pb);intro w2 hE;replace hE:(fun v w1 w'=>v 4 = .int .i64 0 ∧ Blk w' (w.heap.size + 1) 59 (Q5o pl d) ∧ Below w.heap.size w1 w') v w1 w2:=hE;simp only [Flow.acts,Act.put];go_simp;obtain ⟨hz9,hb8,hl8⟩:=hE;go_wp2;refine bodyPost_ret (Q4w Tryz.results51 rfl hb8 Tryz.Q5e Tryz.Q1v rfl rfl) rfl ?_;exact ⟨by rw [HA.out,HR.out,HRE.out,HSM2.out]; simp [hz9]; rfl,Below.trans (HXX7.out.trans (hdr.trans hx)) hl8⟩
 · have HA:Hid (X3g t = 0):=by exact (by unfold X3g; rw [if_neg he]:X3g t = 0)
   have HR:Hid (nextR t = ⟨0,0⟩):=by exact (by unfold nextR; rw [if_neg he]:nextR t = ⟨0,0⟩)
   have HRE:Hid (Q9a t = t.err):=by exact (by unfold Q9a; rw [if_neg he]:Q9a t = t.err)
   have hne:(t.err != 0) = true:=by simp [he]
   clear he;go_wp2_with (refine Q0d rfl _ _ _ rfl Tryz.Q1v rfl rfl hbr rfl rfl ?_ ?_; (focus (exact Q7e ⟨0,0⟩)); intro w8 hb8 hl8 ho8);refine bodyPost_ret (Q4w Tryz.results51 rfl hb8 Tryz.Q5e Tryz.Q1v rfl rfl) rfl ?_;exact ⟨by rw [HA.out,HR.out,HRE.out]; rfl,Below.trans HXX.out (hl8 _ (by omega))⟩
end Go.Proofs
