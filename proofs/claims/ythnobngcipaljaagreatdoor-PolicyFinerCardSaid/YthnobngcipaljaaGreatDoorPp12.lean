/- Contract: CheckSeason. Contract: history.compare. -/
import Derived.Test.YthnobngcipaljaaGreatDoorPp07
import Derived.Test.YthnobngcipaljaaGreatDoorPp09
import Derived.ChangeKeysEq
import Derived.Shelf.SlSortCmp.Whole1
set_option maxRecDepth 1000000
set_option maxHeartbeats 64000000
set_option linter.unusedVariables false
set_option linter.unusedSimpArgs false
set_option linter.constructorNameAsVariable false
open Go.Lib (hid)
namespace Go.Proofs
open Go.RowKit Go.Tw Go.Flow
attribute [local go_sem] Oper.semAt_some
def a3 (a b c:Int):Array Value:=#[.int .i64 a,.int .i64 b,.int .i64 c]
theorem Z7c (a b c:Int) (w:World):∀ i,i < 3 -> (part 3 (a3 a b c) (i * 1)).run Tryz.prog w=.ok (.int .i64 (ix [a,b,c] i)) w
 | 0,_=>by kernel_rfl
 | 1,_=>by kernel_rfl
 | 2,_=>by kernel_rfl
theorem X8w (a b c a' b' c':Int) (d:Nat) (w:World):∀ is:List Nat,(∀ i ∈ is,i < 3) -> (Op.eqItems (d + 1) 3 1 (a3 a b c) (a3 a' b' c') is).run Tryz.prog w=.ok (is.all fun i=>ix [a,b,c] i == ix [a',b',c'] i) w
 | [],_=>rfl
 | i :: is,h=>by
   have hi:=h i (List.mem_cons_self ..);have ih:=X8w a b c a' b' c' d w is (fun j hj=>h j (List.mem_cons_of_mem _ hj));rw [Op.eqItems];simp only [Sem.run_bind,Z7c _ _ _ _ i hi,Result.andThen_ok,run_equalIn_int w d 3 .i64 .i64 _ _ Tryz.underlying3];cases hq:(ix [a,b,c] i == ix [a',b',c'] i) with
   | true=>simp [ih,hq]
   | false=>simp [hq]
theorem Y8v (w:World) (a b c a' b' c':Int):(binOp .eql 195 (.agg (a3 a b c)) (.agg (a3 a' b' c'))).run Tryz.prog w=.ok (.bool (a == a' && (b == b' && c == c'))) w:=by
 obtain ⟨i,hi⟩:∃ i,Tryz.prog.info? 3=some i:=by
  have h:=Tryz.info3;cases hh:Tryz.prog.info? 3 with
  | none=>rw [hh] at h; cases h
  | some i=>exact ⟨i,rfl⟩
 have hu:Tryz.prog.underlying 195=some (.array 3 3):=by kernel_rfl
 have hc:Tryz.prog.cellsOf 3=1:=by kernel_rfl
 rw [run_eql_struct,show (10000:Nat)=9998 + 1 + 1 from rfl,run_equalIn_array w (9998 + 1) _ _ hu hi,hc,X8w a b c a' b' c' 9998 w _ (fun i hi=>List.mem_range.1 hi)]
 have e:(List.range 3).all (fun i=>ix [a,b,c] i == ix [a',b',c'] i)=(a == a' && (b == b' && c == c')):=by
  rw [show List.range 3=[0,1,2] from rfl]
  simp [ix]
 rw [e];rfl
theorem Y8z (w:World) (a b c a' b' c':Int):(binOp .neq 195 (.agg (a3 a b c)) (.agg (a3 a' b' c'))).run Tryz.prog w=.ok (.bool (!(a == a' && (b == b' && c == c')))) w:=by
 have h:=Y8v w a b c a' b' c';rw [run_eql_struct] at h;rw [run_neq_struct];generalize (Op.equalIn 10000 195 (.agg (a3 a b c)) (.agg (a3 a' b' c'))).run Tryz.prog w=r at h ⊢;cases r with
 | ok x w1 =>
   simp only [Result.andThen_ok] at h ⊢;injection h with h1 h2;injection h1 with h1;rw [h1,h2]
 | _=>simp [Result.andThen] at h
theorem Tryz.Z1y:Tryz.prog.eqGuardType Tryz.prog.depth 195=false:=by kernel_rfl
theorem Y1s {w:World} {o:Oper} {a:Act} (x y:Operand) {T2:TypeId} (hop:o.op=.binOp .neq 195 x y T2) {b c d b' c' d':Int} (hx:a.eval x=.agg (a3 b c d)) (hy:a.eval y=.agg (a3 b' c' d')):(execOp a.eval o).run Tryz.prog w=.ok (.value (.bool (!(b == b' && (c == c' && d == d'))))) w:=by
 unfold execOp;simp only [hop,hx,hy,Sem.run_bind,run_eqGuard_agg w .neq 195 x y _ _ Tryz.Z1y,Result.andThen_ok,Y8z,Sem.run_pure]
theorem Tryz.J1x (w:World):(isAgg 195).run Tryz.prog w=.ok true w:=by kernel_rfl
theorem Tryz.J0h (w:World):(sizeOf 195).run Tryz.prog w=.ok 3 w:=by kernel_rfl
theorem Q0r (x:Int) (l:List Int):Q0g (x :: l)=if x=0 then Q0g l else x:=rfl
theorem X1t (e:Int):Q0x true e=e:=rfl
theorem X2f (e:Int):Q0x false e=0:=rfl
theorem Z4p (s:Q0b) (p1 p2 p3 p4:Bool) (h1:((s.ships.length:Int) == 0)=p1) (h2:decide (6 < (s.ships.length:Int))=p2) (h3:((s.members.length:Int) == 0)=p3) (h4:decide (8 < (s.members.length:Int))=p4) {E:Int}
    (hE:Q0g [Q0f s.limit 0 1024,Q0x p1 12,Q0x p2 5,Q0o s.ships 1000,Q0x p3 12,Q0x p4 5]=E):s.err=if E=0 then Q3f s.Q2o s.members.length 0 else E:=by
 have d1:p1=true ↔ s.ships.length=0:=by rw [<- h1,beq_iff_eq]; omega
 have d2:p2=true ↔ 6 < s.ships.length:=by rw [<- h2,decide_eq_true_iff]; omega
 have d3:p3=true ↔ s.members.length=0:=by rw [<- h3,beq_iff_eq]; omega
 have d4:p4=true ↔ 8 < s.members.length:=by rw [<- h4,decide_eq_true_iff]; omega
 clear h1 h2 h3 h4
 by_cases c0:Q0f s.limit 0 1024=0
 . rw [Q0r,if_pos c0] at hE
   by_cases c1:s.ships.length=0
   . rw [Q0r,d1.2 c1,X1t] at hE
     rw [Y7s c0 c1,<- hE]; rfl
   . have e1:p1=false:=by cases p1 with | true=>exact absurd (d1.1 rfl) c1 | false=>rfl
     rw [Q0r,e1,X2f,if_pos rfl] at hE
     by_cases c2:6 < s.ships.length
     . rw [Q0r,d2.2 c2,X1t] at hE
       rw [Y8g c0 c1 c2,<- hE]; rfl
     . have e2:p2=false:=by cases p2 with | true=>exact absurd (d2.1 rfl) c2 | false=>rfl
       rw [Q0r,e2,X2f,if_pos rfl] at hE
       by_cases c3:Q0o s.ships 1000=0
       . rw [Q0r,if_pos c3] at hE
         rw [X4s c0 c1 c2 c3]
         by_cases c4:s.members.length=0
         . rw [Q0r,d3.2 c4,X1t] at hE
           rw [if_pos c4,<- hE]; rfl
         . have e3:p3=false:=by cases p3 with | true=>exact absurd (d3.1 rfl) c4 | false=>rfl
           rw [Q0r,e3,X2f,if_pos rfl] at hE;rw [if_neg c4]
           by_cases c5:8 < s.members.length
           . rw [Q0r,d4.2 c5,X1t] at hE
             rw [if_pos c5,<- hE]; rfl
           . have e4:p4=false:=by cases p4 with | true=>exact absurd (d4.1 rfl) c5 | false=>rfl
             rw [Q0r,e4,X2f,if_pos rfl] at hE;rw [if_neg c5,<- hE]; rfl
       . rw [Q0r,if_neg c3] at hE
         rw [Y3v c0 c1 c2 c3,<- hE,if_neg c3,Q7u c3]
 . rw [Q0r,if_neg c0] at hE
   rw [<- hE,if_neg c0,Y4e c0,Q5v c0]
theorem Y2n (s:Q0b) (i:Nat) (sh:Bool) (hsh:(!(((Q0c s.members i).length:Int) == (s.ships.length:Int) && (((Q0t s.members i).length:Int) == (s.ships.length:Int) && ((Q0y s.members i).length:Int) == (s.ships.length:Int))))=sh) {A B:Int}
    (hA:Q0g [Q0x (!nameB (Q1h s.members i)) 8,Q0x (Q2y s.members i) 9,Q0f (Q0i s.members i) 1 1000,Q0x sh 2]=A) (hB:Q0g [Q0o (Q0c s.members i) 9,Q0o (Q0t s.members i) 1024,Q0o (Q0y s.members i) 1024]=B):s.Q2o i=if A=0 then B else A:=by
 have d:sh=false ↔ ((Q0c s.members i).length=s.ships.length /\ (Q0t s.members i).length=s.ships.length /\ (Q0y s.members i).length=s.ships.length):=by
  rw [<- hsh,Bool.not_eq_false',Bool.and_eq_true,Bool.and_eq_true,beq_iff_eq,beq_iff_eq,beq_iff_eq]; omega
 clear hsh;cases hn:nameB (Q1h s.members i) with
 | false =>
   rw [hn,Bool.not_false,X1t,Q0r] at hA;rw [X5k hn,<- hA]; rfl
 | true =>
   rw [hn,Bool.not_true,X2f,Q0r,if_pos rfl] at hA;cases ht:Q2y s.members i with
   | true =>
     rw [ht,X1t,Q0r] at hA;rw [X3f hn ht,<- hA]; rfl
   | false =>
     rw [ht,X2f,Q0r,if_pos rfl] at hA
     by_cases hw:Q0f (Q0i s.members i) 1 1000=0
     . rw [Q0r,if_pos hw] at hA
       cases sh with
       | true =>
         rw [X2r hn ht hw (fun h=>by have:=d.2 h; cases this),<- hA]; rfl
       | false =>
         rw [X4w hn ht hw (d.1 rfl),<- hA,hB]; rfl
     . rw [Q0r,if_neg hw] at hA
       rw [<- hA,if_neg hw,X0t hn ht hw,Q5v hw]
theorem Q1u (w:World) (v:Value) (s:Q0b) (hv:Q0h w v s) (hs:Q3k s) :
    Calls Tryz.prog 46 #[v] w fun e w'=>e=.returned (.int .i64 s.err) /\ Ext w w':=by
 obtain ⟨a,b,rfl,h2⟩:=hv;obtain ⟨A,capa,rfl,hla,-,-⟩:=h2.ships.opened;obtain ⟨B,capb,rfl,hlb,hcapb,-⟩:=h2.members.opened;have H2:=hid h2;have HSS:=hid hs;have h7:=hs.ships;have h9:=hs.members;obtain ⟨p1,hp1⟩:∃ x,((s.ships.length:Int) == 0)=x:=⟨_,rfl⟩;obtain ⟨p2,hp2⟩:∃ x,decide (6 < (s.ships.length:Int))=x:=⟨_,rfl⟩;obtain ⟨p3,hp3⟩:∃ x,((s.members.length:Int) == 0)=x:=⟨_,rfl⟩;obtain ⟨p4,hp4⟩:∃ x,decide (8 < (s.members.length:Int))=x:=⟨_,rfl⟩;obtain ⟨E,hE⟩:∃ E,Q0g [Q0f s.limit 0 1024,Q0x p1 12,Q0x p2 5,Q0o s.ships 1000,Q0x p3 12,Q0x p4 5]=E:=⟨_,rfl⟩;have HE:Hid (∀ (w':World) (u:Value),Q0d w' u [Q0f s.limit 0 1024,Q0x p1 12,Q0x p2 5,Q0o s.ships 1000,Q0x p3 12,Q0x p4 5] -> Calls Tryz.prog 96 #[u] w' fun e w''=>e=.returned (.int .i64 E) /\ w'=w''):=hid (by intro w' u h; rw [<- hE]; exact first_any _ _ _ h)
 have HEH:=hid (Z4p s p1 p2 p3 p4 hp1 hp2 hp3 hp4 hE);clear h2 hE hs;go_enter Tryz.func46,Tryz.ntmps46;go_wp2_with fail;change Code.wp _ _ _ _ (w.alloc (.cells #[.int .i64 s.limit,.slice A s.ships.length capa,.slice B s.members.length capb] 34));obtain ⟨W,hWW,k0,HXW,eW⟩:=Q1t w 34 #[.int .i64 s.limit,.slice A s.ships.length capa,.slice B s.members.length capb];rw [hWW];clear hWW;have K0:=hid k0;have c0_1:=k0.cell 1;simp only [Go.Tw.gA,Go.Tw.gB,Go.Tw.gC] at c0_1;have hdr:=(Ext.refl W).drew;clear k0;go_wp2;refine Flow.Q1o [.p,.w,.w,.p,.p,.w,.p,.p,.w,.p,.w,.w,.w,.p,.w,.p,.p,.w,.p,.w,.p,.p,.w,.w,.w,.p] [0,1,2,3,4,5,6,7,8,9,10,11,12,13,14,15,16,17,18,19,20,21,22,23,24,25] [[],[0],[1],[],[3],[2,4],[],[6],[5,7],[],[9],[8,10],[11],[],[13],[14],[15],[12,16],[],[18],[19],[20],[17,21],[2,5,8,12,17,22],[22,23],[0,1,2,3,4,5,6,7,8,9,10,11,12,13,14,15,16,17,18,19,20,21,22,23,24]]
  [.c 0 (.pointer (some ⟨w.heap.size,0,none⟩)),.c 1 (.int .i64 s.limit),.c 2 (.int .i64 (Q0f s.limit 0 1024)),.c 3 (.int .i64 (s.ships.length:Int)),.c 4 (.bool p1),.c 5 (.int .i64 (Q0x p1 12)),.c 6 (.int .i64 (s.ships.length:Int)),.c 7 (.bool p2),.c 8 (.int .i64 (Q0x p2 5)),.c 9 (.pointer (some ⟨w.heap.size,1,none⟩)),.c 10 (.slice A s.ships.length capa),⟨fun v wz=>(fun v w'=>Q0d w' (v 11) (s.ships.map fun x=>Q0f x 0 1000)) v wz,by intro v a b hx h; exact Q0d.ext h hx⟩,.c 12 (.int .i64 (Q0o s.ships 1000)),.c 13 (.pointer (some ⟨w.heap.size,2,none⟩)),.c 14 (.slice B s.members.length capb),.c 15 (.int .i64 ((s.members.length:Nat):Int)),.c 16 (.bool p3),.c 17 (.int .i64 (Q0x p3 12)),.c 18 (.pointer (some ⟨w.heap.size,2,none⟩)),.c 19 (.slice B s.members.length capb),.c 20 (.int .i64 ((s.members.length:Nat):Int)),.c 21 (.bool p4),.c 22 (.int .i64 (Q0x p4 5)),⟨fun v wz=>Q0d wz (v 23) [Q0f s.limit 0 1024,Q0x p1 12,Q0x p2 5,Q0o s.ships 1000,Q0x p3 12,Q0x p4 5],fun _ _ _ hx h=>h.ext hx⟩,.c 24 (.int .i64 E),.c 25 (.int .i64 E)]
  (by kernel_rfl) rfl (by kernel_rfl) ⟨?g0,?g1,?g2,?g3,?g4,?g5,?g6,?g7,?g8,?g9,?g10,?g11,?g12,?g13,?g14,?g15,?g16,?g17,?g18,?g19,?g20,?g21,?g22,?g23,?g24,?g25,trivial⟩ ?post
 case g0 | g3 | g6 | g9 | g13 | g18=>
  intro v w1 hx;intro bb hbb;subst hbb;refine ⟨_,fun w=>?_,rfl⟩;go_simp
 case g1 | g10 | g14 | g19=>
  intro v w1 hx;(repeat intro (zq:v _=_));intro bb hbb;subst hbb;have n0:w1.cell? ⟨w.heap.size,0,none⟩=some (.int .i64 s.limit):=(K0.out.ext (hdr.trans hx)).cell 0;have n1:w1.cell? ⟨w.heap.size,1,none⟩=some (.slice A s.ships.length capa):=(K0.out.ext (hdr.trans hx)).cell 1;have n2:w1.cell? ⟨w.heap.size,2,none⟩=some (.slice B s.members.length capb):=(K0.out.ext (hdr.trans hx)).cell 2;intro K hK;go_simp;exact hK _ _ (Ext.refl _) rfl
 case g2=>
  intro v w1 hx;(repeat intro (zq:v _=_));intro bb hbb;subst hbb;intro K hK;go_simp;refine Q0e (Q7t w1 s.limit) ?_;rintro e w2 ⟨rfl,rfl⟩;exact ⟨_,rfl,hK _ _ (Ext.refl _) rfl⟩
 case g4 | g7 | g15 | g16 | g20 | g21=>
  intro v w1 hx;(repeat intro (zq:v _=_));intro bb hbb;subst hbb;refine ⟨_,fun w=>?_,rfl⟩;go_simp
 case g5 | g8 | g17 | g22=>
  intro v w1 hx;(repeat intro (zq:v _=_));intro bb hbb;subst hbb;intro K hK;go_simp;refine Q0e (Q6f _ _ _) ?_;rintro e w2 ⟨rfl,rfl⟩;exact ⟨_,rfl,hK _ _ (Ext.refl _) rfl⟩
 case g11=>
  intro v w1 hx;(repeat intro (zq:v _=_));intro bb hbb;subst hbb;intro K hK;go_simp;refine Q0e (X5b w1 _ s.ships (H2.out.ships.ext (HXW.out.trans (hdr.trans hx))) (by omega)) ?_
  rintro e w2 ⟨x,rfl,h1,hx2⟩;exact ⟨_,rfl,hK _ _ hx2 h1⟩
 case g12=>
  intro v w1 hx (q11:(fun v w'=>Q0d w' (v 11) (s.ships.map fun x=>Q0f x 0 1000)) v w1);intro bb hbb;subst hbb;intro K hK;go_simp;refine Q0e (first_any w1 _ _ q11) ?_;rintro e w2 ⟨rfl,rfl⟩;exact ⟨_,rfl,hK _ _ (Ext.refl _) rfl⟩
 case g23=>
  intro v w1 hx;(repeat intro (zq:v _=_));intro bb hbb;subst hbb;intro K hK;go_simp;exact hK _ _ (Ext.box _ _) (Q3q (l:=[Q0f s.limit 0 1024,Q0x p1 12,Q0x p2 5,Q0o s.ships 1000,Q0x p3 12,Q0x p4 5]) (by simp))
 case g24=>
  intro v w1 hx (q22:v 22=_) (q23:Q0d w1 (v 23) [Q0f s.limit 0 1024,Q0x p1 12,Q0x p2 5,Q0o s.ships 1000,Q0x p3 12,Q0x p4 5]);intro bb hbb;subst hbb;intro K hK;go_simp;refine Q0e (HE.out _ _ q23) ?_;rintro e w2 ⟨rfl,rfl⟩;exact ⟨_,rfl,hK _ _ (Ext.refl _) rfl⟩
 case g25=>
  intro v w1 hx (q0:v 0=_) (q1:v 1=_) (q2:v 2=_) (q3:v 3=_) (q4:v 4=_) (q5:v 5=_) (q6:v 6=_) (q7:v 7=_) (q8:v 8=_) (q9:v 9=_) (q10:v 10=_) _ (q12:v 12=_) (q13:v 13=_) (q14:v 14=_) (q15:v 15=_) (q16:v 16=_) (q17:v 17=_) (q18:v 18=_) (q19:v 19=_) (q20:v 20=_) (q21:v 21=_) (q22:v 22=_) _ (q24:v 24=_);intro bb hbb;subst hbb;refine ⟨_,fun w=>?_,rfl⟩;go_simp
 case post =>
  intro v w1 hx (q0:v 0=_) (q1:v 1=_) (q2:v 2=_) (q3:v 3=_) (q4:v 4=_) (q5:v 5=_) (q6:v 6=_) (q7:v 7=_) (q8:v 8=_) (q9:v 9=_) (q10:v 10=_) (q11:(fun v w'=>Q0d w' (v 11) (s.ships.map fun x=>Q0f x 0 1000)) v w1) (q12:v 12=_) (q13:v 13=_) (q14:v 14=_) (q15:v 15=_) (q16:v 16=_) (q17:v 17=_) (q18:v 18=_) (q19:v 19=_);(iterate 3 intro (zq:v _=_));intro (q23:Q0d w1 (v 23) [Q0f s.limit 0 1024,Q0x p1 12,Q0x p2 5,Q0o s.ships 1000,Q0x p3 12,Q0x p4 5]);(iterate 1 intro (zq:v _=_));intro (q25:v 25=_);simp only [Flow.All,Flow.acts,Act.put];go_simp;have HX1:=hid (HXW.out.trans (hdr.trans hx));have HK1:=hid (K0.out.ext (hdr.trans hx));clear hx hdr c0_1 HE hp1 hp2 hp3 hp4
  by_cases hE0:E=0
  . have hne:(E != 0)=false:=by simp [hE0]
    have HER:Hid (s.err=Q3f s.Q2o s.members.length 0):=hid (by rw [HEH.out,if_pos hE0])
    have c0_2:=HK1.out.cell 2;simp only [Go.Tw.gA,Go.Tw.gB,Go.Tw.gC] at c0_2;clear hE0 HEH;clear q0 q1 q2 q3 q4 q5 q6 q7 q8 q9 q10 q11 q12 q13 q14 q15 q16 q17 q18 q19 q23;(repeat clear zq);obtain ⟨V,rfl⟩:∃ X,X=w1:=⟨_,rfl⟩;go_wp2;clear c0_2
    go_loopw [45] (fun i wr=>∃ (k:Nat),k <= s.members.length /\ i=.int .i64 k /\ Q3f s.Q2o s.members.length k=s.err /\ Ext V wr) (fun i _=>s.members.length - (intOf i).toNat)
    case atStart=>exact ⟨0,Nat.zero_le _,rfl,HER.out.symm,Ext.refl _⟩
    case round =>
     obtain ⟨k,hk,rfl,hr,hxr⟩:=hrel;have HR:=hid hr;have HXR:=hid hxr;have HKR:=hid (HK1.out.ext hxr);clear hr HER
     by_cases hlt:k < s.members.length
     . have H3:=H2.out.ext (HX1.out.trans hxr)
       obtain ⟨_,_,hB,_,_,hc⟩:=H3.members.opened;cases hB;have HMC:Hid (∀ w',Ext wr w' -> ∀ j,j < k -> ∃ b off c1 c2 c3 c4,B=some ⟨b,off,none⟩ /\ w'.cell? ⟨b,off + j * 5,none⟩=some (.string (Q1h s.members j)) /\ w'.cell? ⟨b,off + j * 5 + 1,none⟩=some c1 /\ w'.cell? ⟨b,off + j * 5 + 2,none⟩=some c2 /\ w'.cell? ⟨b,off + j * 5 + 3,none⟩=some c3 /\ w'.cell? ⟨b,off + j * 5 + 4,none⟩=some c4):=hid (fun w' hx j hj=>by
        obtain ⟨b',off',x',y',z',hA,_,f0,f1,f2,f3,f4,_⟩:=hc j (by omega)
        exact ⟨b',off',_,_,_,_,hA,hx.cell f0,hx.cell f1,hx.cell f2,hx.cell f3,hx.cell f4⟩)
       obtain ⟨bm,off,x,y,z,rfl,hbm,e0,e1,e2,e3,e4,hx,hy,hz,hsh⟩:=hc k hlt;obtain ⟨X,capx,rfl,hlx,-,-⟩:=hx.opened;obtain ⟨Y,capy,rfl,hly,-,-⟩:=hy.opened;obtain ⟨Z,capz,rfl,hlz,-,-⟩:=hz.opened;have hs8:=HSS.out.each k hlt;unfold X1u at hs8;have hstep:=X1h (f:=s.Q2o) hlt;rw [HR.out] at hstep;obtain ⟨sh,hshv⟩:∃ x,(!(((Q0c s.members k).length:Int) == (s.ships.length:Int) && (((Q0t s.members k).length:Int) == (s.ships.length:Int) && ((Q0y s.members k).length:Int) == (s.ships.length:Int))))=x:=⟨_,rfl⟩;obtain ⟨EA,hEA⟩:∃ E,Q0g [Q0x (!nameB (Q1h s.members k)) 8,Q0x (Q2y s.members k) 9,Q0f (Q0i s.members k) 1 1000,Q0x sh 2]=E:=⟨_,rfl⟩;obtain ⟨EB,hEB⟩:∃ E,Q0g [Q0o (Q0c s.members k) 9,Q0o (Q0t s.members k) 1024,Q0o (Q0y s.members k) 1024]=E:=⟨_,rfl⟩;have hparts:=Y2n s k sh hshv hEA hEB;have htw:((List.range k).any fun j=>Q1h s.members j == Q1h s.members k)=Q2y s.members k:=rfl;obtain ⟨tw,htwv⟩:∃ x,Q2y s.members k=x:=⟨_,rfl⟩;rw [htwv] at htw hEA;have HX0:=hid hx;have HY0:=hid hy;have HZ0:=hid hz;have HSH:=hid hsh;obtain ⟨nm,hnm⟩:∃ x,Q1h s.members k=x:=⟨_,rfl⟩;obtain ⟨wt,hwt⟩:∃ x,Q0i s.members k=x:=⟨_,rfl⟩;obtain ⟨lc,hlc⟩:∃ x,Q0c s.members k=x:=⟨_,rfl⟩;obtain ⟨lo,hlo⟩:∃ x,Q0t s.members k=x:=⟨_,rfl⟩;obtain ⟨li,hli⟩:∃ x,Q0y s.members k=x:=⟨_,rfl⟩;rw [hnm] at e0 HSH htw hEA hs8;rw [hwt] at e1 hEA;rw [hlc] at e2 HX0 hshv hEB hs8 hlx;rw [hlo] at e3 HY0 hshv hEB hs8 hly;rw [hli] at e4 HZ0 hshv hEB hs8 hlz;obtain ⟨nb,hnb⟩:∃ x,nameB nm=x:=⟨_,rfl⟩;rw [hnb] at hEA;have HNB:Hid (∀ w',Calls Tryz.prog 124 #[.string nm] w' fun e w''=>e=.returned (.bool nb) /\ Ext w' w''):=hid (fun w'=>by rw [<- hnb]; exact Y8l w' nm HSH.out)
       have HA:Hid (∀ (w':World) (u:Value),Q0d w' u [Q0x (!nb) 8,Q0x tw 9,Q0f wt 1 1000,Q0x sh 2] -> Calls Tryz.prog 96 #[u] w' fun e w''=>e=.returned (.int .i64 EA) /\ w'=w''):=hid (by intro w' u h; rw [<- hEA]; exact first_any _ _ _ h)
       have HB:Hid (∀ (w':World) (u:Value),Q0d w' u [Q0o lc 9,Q0o lo 1024,Q0o li 1024] -> Calls Tryz.prog 96 #[u] w' fun e w''=>e=.returned (.int .i64 EB) /\ w'=w''):=hid (by intro w' u h; rw [<- hEB]; exact first_any _ _ _ h)
       have HSHV:=hid hshv;have HTW:Hid (∀ (w':World) (g cap:Nat),Ext wr w' -> w'.cell? ⟨g,0,none⟩=some (.string nm) -> Calls Tryz.prog 122 #[.slice (some ⟨bm,off,none⟩) k cap,.func (.func 123) #[] #[.pointer (some ⟨g,0,none⟩)]] w' fun e w''=>e=.returned (.bool tw) /\ Ext w' w''):=hid (fun w' g cap hx hB=>by
        have:=Y9x w' s.members k (some ⟨bm,off,none⟩) cap g nm hB (by omega) (HMC.out w' hx)
        rwa [htw] at this)
       obtain ⟨hs60,hsc,hso,hsi⟩:=hs8;have HPARTS:=hid hparts;have HSTEP:=hid hstep;have c0_2:=HKR.out.cell 2;simp only [Go.Tw.gA,Go.Tw.gB,Go.Tw.gC] at c0_2;have hkI:(k:Int) < s.members.length:=by omega
       clear hc H3 HMC hx hy hz hsh hstep hparts hnm hwt hlc hlo hli hnb htw htwv hEA hEB hshv hlx hly hlz hbm hs60 HSH;have hbox:=Ext.box wr (.cells #[.string nm,.int .i64 wt,.slice X lc.length capx,.slice Y lo.length capy,.slice Z li.length capz] 69);have K3:=Blk.made wr 69 #[.string nm,.int .i64 wt,.slice X lc.length capx,.slice Y lo.length capy,.slice Z li.length capz];replace c0_2:=hbox.cell c0_2;have d0:=K3.cell 0;have d2:=K3.cell 2;have d3:=K3.cell 3;have d4:=K3.cell 4;simp only [Go.Tw.gA,Go.Tw.gB,Go.Tw.gC] at d0 d2 d3 d4
       go_light
       go_wp2_with (go_at_call 122; refine (HTW.out _ _ _ hbox d0).mono ?_; rintro e w4 ⟨rfl,hx4⟩; replace d2:=hx4.cell d2; replace d3:=hx4.cell d3; replace d4:=hx4.cell d4);obtain ⟨W,hWW,k0,HXW,eW⟩:=Q1t w4 195 #[.int .i64 (lc.length:Int),.int .i64 (lo.length:Int),.int .i64 (li.length:Int)];rw [hWW];clear hWW;have KB:=hid ((K3.ext hx4).ext HXW.out);have KA:=hid k0;have HXX:=hid ((HX1.out.trans hxr).trans ((hbox.trans hx4).trans HXW.out));have HWR:=hid ((hbox.trans hx4).trans HXW.out);have HXV:=hid (hxr.trans ((hbox.trans hx4).trans HXW.out));have hdr:=(Ext.refl W).drew;clear k0 K3 d0 d2 d3 d4 c0_2 hx4 hxr hbox e0 e1 e2 e3 e4 HTW;refine Flow.Q1o [.p,.w,.w,.p,.w,.p,.w,.p,.w,.w,.w,.p,.p,.p,.p,.p,.w,.w,.w,.p] [0,1,2,3,4,5,6,7,8,9,10,11,12,13,14,15,16,17,18,19] [[],[0],[1],[2],[2,3],[],[4,5],[],[7],[6,8],[],[],[],[],[11,12,13],[10,14],[9,15],[4,6,9,16],[16,17],[0,1,2,3,4,5,6,7,8,9,10,11,12,13,14,15,16,17,18]]
        [.c 0 (.pointer (some ⟨wr.heap.size,0,none⟩)),.c 1 (.string nm),.c 2 (.bool nb),.c 3 (.bool (!nb)),.c 4 (.int .i64 (Q0x (!nb) 8)),.c 5 (.bool tw),.c 6 (.int .i64 (Q0x tw 9)),.c 7 (.pointer (some ⟨wr.heap.size,1,none⟩)),.c 8 (.int .i64 wt),.c 9 (.int .i64 (Q0f wt 1 1000)),.c 10 (.agg (a3 lc.length lo.length li.length)),.c 11 (.int .i64 (s.ships.length:Int)),.c 12 (.int .i64 (s.ships.length:Int)),.c 13 (.int .i64 (s.ships.length:Int)),.c 14 (.agg #[.int .i64 (s.ships.length:Int),.int .i64 (s.ships.length:Int),.int .i64 (s.ships.length:Int)]),.c 15 (.bool sh),.c 16 (.int .i64 (Q0x sh 2)),⟨fun v wz=>Q0d wz (v 17) [Q0x (!nb) 8,Q0x tw 9,Q0f wt 1 1000,Q0x sh 2],fun _ _ _ hx h=>h.ext hx⟩,.c 18 (.int .i64 EA),.c 19 (.int .i64 EA)]
        (by kernel_rfl) rfl (by kernel_rfl) ⟨?g0,?g1,?g2,?g3,?g4,?g5,?g6,?g7,?g8,?g9,?g10,?g11,?g12,?g13,?g14,?g15,?g16,?g17,?g18,?g19,trivial⟩ ?post
       case g0 | g5 | g7 | g11 | g12 | g13=>
        intro v w1 hx;intro bb hbb;subst hbb;refine ⟨_,fun w=>?_,rfl⟩;go_simp
       case g1 | g8=>
        intro v w1 hx;(repeat intro (zq:v _=_));intro bb hbb;subst hbb;have n0:w1.cell? ⟨wr.heap.size,0,none⟩=some (.string nm):=(KB.out.ext (hdr.trans hx)).cell 0;have n1:w1.cell? ⟨wr.heap.size,1,none⟩=some (.int .i64 wt):=(KB.out.ext (hdr.trans hx)).cell 1;intro K hK;go_simp;exact hK _ _ (Ext.refl _) rfl
       case g2=>
        intro v w1 hx;(repeat intro (zq:v _=_));intro bb hbb;subst hbb;intro K hK;go_simp;refine Q0e (HNB.out w1) ?_;rintro e w2 ⟨rfl,hx2⟩;exact ⟨_,rfl,hK _ _ hx2 rfl⟩
       case g3 | g14=>
        intro v w1 hx;(repeat intro (zq:v _=_));intro bb hbb;subst hbb;refine ⟨_,fun w=>?_,rfl⟩;go_simp
       case g4 | g6 | g16=>
        intro v w1 hx;(repeat intro (zq:v _=_));intro bb hbb;subst hbb;intro K hK;go_simp;refine Q0e (Q6f _ _ _) ?_;rintro e w2 ⟨rfl,rfl⟩;exact ⟨_,rfl,hK _ _ (Ext.refl _) rfl⟩
       case g9=>
        intro v w1 hx;(repeat intro (zq:v _=_));intro bb hbb;subst hbb;intro K hK;go_simp;refine Q0e (Q6l w1 wt 1 1000) ?_;rintro e w2 ⟨rfl,rfl⟩;exact ⟨_,rfl,hK _ _ (Ext.refl _) rfl⟩
       case g10=>
        intro v w1 hx;intro bb hbb;intro K hK;have o1:bb.eval (.tmp 8)=.pointer (some ⟨w4.heap.size,0,none⟩):=by rw [hbb]; dsimp only; (try simp (discharger:=decide) only [eval_put_ne]); rfl
        exact Q0p (.tmp 8) _ rfl Tryz.J1x Tryz.J0h o1 (KA.out.ext (hdr.trans hx)) rfl (hK _ _ (Ext.refl _) rfl)
       case g15=>
        intro v w1 hx;(repeat intro (zq:v _=_));intro bb hbb;have o1:bb.eval (.tmp 76)=.agg (a3 lc.length lo.length li.length):=by rw [hbb]; dsimp only; (try simp (discharger:=decide) only [eval_put_ne]); rw [Q0a (by simp only [size_put]; exact (by decide:76 < 106))]; assumption
        have o2:bb.eval (.tmp 80)=.agg (a3 s.ships.length s.ships.length s.ships.length):=by rw [hbb]; dsimp only; (try simp (discharger:=decide) only [eval_put_ne]); rw [Q0a (by simp only [size_put]; exact (by decide:80 < 106))]; assumption
        exact ⟨.bool sh,fun w=>(Y1s (.tmp 76) (.tmp 80) rfl o1 o2).trans (by rw [HSHV.out]),rfl⟩
       case g17=>
        intro v w1 hx;(repeat intro (zq:v _=_));intro bb hbb;subst hbb;intro K hK;go_simp;exact hK _ _ (Ext.box _ _) (Q3q (l:=[Q0x (!nb) 8,Q0x tw 9,Q0f wt 1 1000,Q0x sh 2]) (by simp))
       case g18=>
        intro v w1 hx (q16:v 16=_) (q17:Q0d w1 (v 17) [Q0x (!nb) 8,Q0x tw 9,Q0f wt 1 1000,Q0x sh 2]);intro bb hbb;subst hbb;intro K hK;go_simp;refine Q0e (HA.out _ _ q17) ?_;rintro e w2 ⟨rfl,rfl⟩;exact ⟨_,rfl,hK _ _ (Ext.refl _) rfl⟩
       case g19=>
        intro v w1 hx (q0:v 0=_) (q1:v 1=_) (q2:v 2=_) (q3:v 3=_) (q4:v 4=_) (q5:v 5=_) (q6:v 6=_) (q7:v 7=_) (q8:v 8=_) (q9:v 9=_) (q10:v 10=_) (q11:v 11=_) (q12:v 12=_) (q13:v 13=_) (q14:v 14=_) (q15:v 15=_) (q16:v 16=_) _ (q18:v 18=_);intro bb hbb;subst hbb;refine ⟨_,fun w=>?_,rfl⟩;go_simp
       case post =>
        intro v w1 hx (q0:v 0=_) (q1:v 1=_) (q2:v 2=_) (q3:v 3=_) (q4:v 4=_) (q5:v 5=_) (q6:v 6=_) (q7:v 7=_) (q8:v 8=_) (q9:v 9=_) (q10:v 10=_) (q11:v 11=_) (q12:v 12=_) (q13:v 13=_) (q14:v 14=_);(iterate 2 intro (zq:v _=_));intro (q17:Q0d w1 (v 17) [Q0x (!nb) 8,Q0x tw 9,Q0f wt 1 1000,Q0x sh 2]);(iterate 1 intro (zq:v _=_));intro (q19:v 19=_);simp only [Flow.All,Flow.acts,Act.put];go_simp;have HX2:=hid (hdr.trans hx);clear hx hdr q0 q1 q2 q3 q4 q5 q6 q7 q8 q9 q10 q11 q12 q13 q14 q17 HA HNB HSHV KA;(repeat clear zq)
        by_cases ha:EA=0
        . have hna:(EA != 0)=false:=by simp [ha]
          have HPB:Hid (s.Q2o k=EB):=hid (by rw [HPARTS.out,if_pos ha])
          have HK9:=hid (KB.out.ext HX2.out);have HX9:=hid (HXX.out.trans HX2.out);have HV9:=hid (HXV.out.trans HX2.out);have HWR9:=hid (HWR.out.trans HX2.out);have hdr:=(Ext.refl w1).drew;clear ha HPARTS KB HXX HX2 HXV;obtain ⟨U,rfl⟩:∃ X,X=w1:=⟨_,rfl⟩;go_wp2;refine Flow.Q1o [.p,.w,.w,.w,.p,.w,.w,.w,.p,.w,.w,.w,.w,.w,.p] [0,1,2,3,4,5,6,7,8,9,10,11,12,13,14] [[],[0],[1],[2],[],[4],[3,5],[6],[],[8],[7,9],[10],[3,7,11],[11,12],[0,1,2,3,4,5,6,7,8,9,10,11,12,13]]
           [.c 0 (.pointer (some ⟨wr.heap.size,2,none⟩)),.c 1 (.slice X lc.length capx),⟨fun v wz=>(fun v w'=>Q0d w' (v 2) (lc.map fun x=>Q0f x 0 9)) v wz,by intro v a b hx h; exact Q0d.ext h hx⟩,.c 3 (.int .i64 (Q0o lc 9)),.c 4 (.pointer (some ⟨wr.heap.size,3,none⟩)),.c 5 (.slice Y lo.length capy),⟨fun v wz=>(fun v w'=>Q0d w' (v 6) (lo.map fun x=>Q0f x 0 1024)) v wz,by intro v a b hx h; exact Q0d.ext h hx⟩,.c 7 (.int .i64 (Q0o lo 1024)),.c 8 (.pointer (some ⟨wr.heap.size,4,none⟩)),.c 9 (.slice Z li.length capz),⟨fun v wz=>(fun v w'=>Q0d w' (v 10) (li.map fun x=>Q0f x 0 1024)) v wz,by intro v a b hx h; exact Q0d.ext h hx⟩,.c 11 (.int .i64 (Q0o li 1024)),⟨fun v wz=>Q0d wz (v 12) [Q0o lc 9,Q0o lo 1024,Q0o li 1024],fun _ _ _ hx h=>h.ext hx⟩,.c 13 (.int .i64 EB),.c 14 (.int .i64 EB)]
           (by kernel_rfl) rfl (by kernel_rfl) ⟨?g0,?g1,?g2,?g3,?g4,?g5,?g6,?g7,?g8,?g9,?g10,?g11,?g12,?g13,?g14,trivial⟩ ?post
          case g0 | g4 | g8=>
           intro v w1 hx;intro bb hbb;subst hbb;refine ⟨_,fun w=>?_,rfl⟩;go_simp
          case g1 | g5 | g9=>
           intro v w1 hx;(repeat intro (zq:v _=_));intro bb hbb;subst hbb;have n0:w1.cell? ⟨wr.heap.size,2,none⟩=some (.slice X lc.length capx):=(HK9.out.ext (hdr.trans hx)).cell 2;have n1:w1.cell? ⟨wr.heap.size,3,none⟩=some (.slice Y lo.length capy):=(HK9.out.ext (hdr.trans hx)).cell 3;have n2:w1.cell? ⟨wr.heap.size,4,none⟩=some (.slice Z li.length capz):=(HK9.out.ext (hdr.trans hx)).cell 4;intro K hK;go_simp;exact hK _ _ (Ext.refl _) rfl
          case g2=>
           intro v w1 hx;(repeat intro (zq:v _=_));intro bb hbb;subst hbb;intro K hK;go_simp;refine Q0e (Q7m w1 _ lc (HX0.out.ext (HWR9.out.trans (hdr.trans hx))) (by omega)) ?_
           rintro e w2 ⟨x,rfl,h1,hx2⟩;exact ⟨_,rfl,hK _ _ hx2 h1⟩
          case g3=>
           intro v w1 hx (q2:(fun v w'=>Q0d w' (v 2) (lc.map fun x=>Q0f x 0 9)) v w1);intro bb hbb;subst hbb;intro K hK;go_simp;refine Q0e (first_any w1 _ _ q2) ?_;rintro e w2 ⟨rfl,rfl⟩;exact ⟨_,rfl,hK _ _ (Ext.refl _) rfl⟩
          case g6=>
           intro v w1 hx;(repeat intro (zq:v _=_));intro bb hbb;subst hbb;intro K hK;go_simp;refine Q0e (Q7k w1 _ lo (HY0.out.ext (HWR9.out.trans (hdr.trans hx))) (by omega)) ?_
           rintro e w2 ⟨x,rfl,h1,hx2⟩;exact ⟨_,rfl,hK _ _ hx2 h1⟩
          case g7=>
           intro v w1 hx (q6:(fun v w'=>Q0d w' (v 6) (lo.map fun x=>Q0f x 0 1024)) v w1);intro bb hbb;subst hbb;intro K hK;go_simp;refine Q0e (first_any w1 _ _ q6) ?_;rintro e w2 ⟨rfl,rfl⟩;exact ⟨_,rfl,hK _ _ (Ext.refl _) rfl⟩
          case g10=>
           intro v w1 hx;(repeat intro (zq:v _=_));intro bb hbb;subst hbb;intro K hK;go_simp;refine Q0e (Q7k w1 _ li (HZ0.out.ext (HWR9.out.trans (hdr.trans hx))) (by omega)) ?_
           rintro e w2 ⟨x,rfl,h1,hx2⟩;exact ⟨_,rfl,hK _ _ hx2 h1⟩
          case g11=>
           intro v w1 hx (q10:(fun v w'=>Q0d w' (v 10) (li.map fun x=>Q0f x 0 1024)) v w1);intro bb hbb;subst hbb;intro K hK;go_simp;refine Q0e (first_any w1 _ _ q10) ?_;rintro e w2 ⟨rfl,rfl⟩;exact ⟨_,rfl,hK _ _ (Ext.refl _) rfl⟩
          case g12=>
           intro v w1 hx;(repeat intro (zq:v _=_));intro bb hbb;subst hbb;intro K hK;go_simp;exact hK _ _ (Ext.box _ _) (Q3q (l:=[Q0o lc 9,Q0o lo 1024,Q0o li 1024]) (by simp))
          case g13=>
           intro v w1 hx (q11:v 11=_) (q12:Q0d w1 (v 12) [Q0o lc 9,Q0o lo 1024,Q0o li 1024]);intro bb hbb;subst hbb;intro K hK;go_simp;refine Q0e (HB.out _ _ q12) ?_;rintro e w2 ⟨rfl,rfl⟩;exact ⟨_,rfl,hK _ _ (Ext.refl _) rfl⟩
          case g14=>
           intro v w1 hx (q0:v 0=_) (q1:v 1=_) _ (q3:v 3=_) (q4:v 4=_) (q5:v 5=_) _ (q7:v 7=_) (q8:v 8=_) (q9:v 9=_) _ (q11:v 11=_) _ (q13:v 13=_);intro bb hbb;subst hbb;refine ⟨_,fun w=>?_,rfl⟩;go_simp
          case post =>
           intro v w1 hx;(iterate 2 intro (zq:v _=_));intro (q2:(fun v w'=>Q0d w' (v 2) (lc.map fun x=>Q0f x 0 9)) v w1);(iterate 3 intro (zq:v _=_));intro (q6:(fun v w'=>Q0d w' (v 6) (lo.map fun x=>Q0f x 0 1024)) v w1);(iterate 3 intro (zq:v _=_));intro (q10:(fun v w'=>Q0d w' (v 10) (li.map fun x=>Q0f x 0 1024)) v w1);(iterate 1 intro (zq:v _=_));intro (q12:Q0d w1 (v 12) [Q0o lc 9,Q0o lo 1024,Q0o li 1024]);(iterate 1 intro (zq:v _=_));intro (q14:v 14=_);simp only [Flow.All,Flow.acts,Act.put];go_simp;have HX2:=hid (hdr.trans hx);clear hx hdr q2 q6 q10 q12;(repeat clear zq)
           by_cases hb:EB=0
           . have hnb:(EB != 0)=false:=by simp [hb]
             have HST:Hid (Q3f s.Q2o s.members.length (k + 1)=s.err):=hid (by rw [HSTEP.out,HPB.out,if_pos hb])
             clear hb;go_wp2;go_roundw
             case rel=>exact ⟨k + 1,by omega,by go_num,HST.out,HV9.out.trans HX2.out⟩
             case measure=>simp [intOf]; omega
           . have hnb:(EB != 0)=true:=by simp [hb]
             have HST:Hid (s.err=EB):=hid (by rw [HSTEP.out,HPB.out,if_neg hb])
             clear hb;go_wp2;go_ret;exact ⟨Q1d HST.out.symm,HX9.out.trans HX2.out⟩
        . have hna:(EA != 0)=true:=by simp [ha]
          have HST:Hid (s.err=EA):=hid (by rw [HSTEP.out,HPARTS.out,if_neg ha,if_neg ha])
          clear ha;go_wp2;go_ret;exact ⟨Q1d HST.out.symm,HXX.out.trans HX2.out⟩
     . go_wp2
       go_ret;exact ⟨Q1d (by rw [<- HR.out,X2k (by omega)]),HX1.out.trans hxr⟩
  . have hne:(E != 0)=true:=by simp [hE0]
    have HER:Hid (s.err=E):=hid (by rw [HEH.out,if_neg hE0])
    clear hE0 HEH;go_wp2;go_ret;exact ⟨Q1d HER.out.symm,HX1.out⟩
end Go.Proofs
namespace Go.Proofs
open Go.RowKit Go.Tw Go.Flow
def Y0v (x y:Int):Int:=if x < y then -1 else if y < x then 1 else 0
def cmpL:List Int -> List Int -> Int
 | [],[]=>0
 | [],_ :: _=>-1
 | _ :: _,[]=>1
 | x :: l,y :: m=>if x=y then cmpL l m else Y0v x y
def X7z (a b:List Int):Int:=if Y0v a.length b.length=0 then cmpL a b else Y0v a.length b.length
theorem Z3o {a b:List Int} {k:Nat} (ha:k < a.length) (hb:k < b.length):cmpL (a.drop k) (b.drop k)=if ix a k=ix b k then cmpL (a.drop (k + 1)) (b.drop (k + 1)) else Y0v (ix a k) (ix b k):=by
 rw [Q3b ha,Q3b hb]; rfl
theorem Z7m {a b:List Int} {k:Nat} (ha:k < a.length) (hb:b.length <= k):cmpL (a.drop k) (b.drop k)=1:=by
 rw [Q3b ha,List.drop_eq_nil_of_le hb]; rfl
theorem Z8m {a b:List Int} {k:Nat} (ha:a.length <= k) (hb:k < b.length):cmpL (a.drop k) (b.drop k)=-1:=by
 rw [Q3b hb,List.drop_eq_nil_of_le ha]; rfl
theorem cmpL_eq {a b:List Int} {k:Nat} (ha:a.length <= k) (hb:b.length <= k):cmpL (a.drop k) (b.drop k)=0:=by
 rw [List.drop_eq_nil_of_le hb,List.drop_eq_nil_of_le ha]; rfl
theorem X1v (w:World) (x y:Int) :
    Calls Tryz.prog 189 #[.int .i64 x,.int .i64 y] w fun e w'=>e=.returned (.int .i64 (Y0v x y)) /\ w=w':=by
 unfold Y0v
 by_cases h1:x < y
 . rw [if_pos h1]
   go_enter Tryz.func189,Tryz.ntmps189;go_wp2;go_ret;exact ⟨rfl,rfl⟩
 . by_cases h2:y < x
   . rw [if_neg h1,if_pos h2]
     go_enter Tryz.func189,Tryz.ntmps189;go_wp2;go_ret;exact ⟨rfl,rfl⟩
   . rw [if_neg h1,if_neg h2]
     go_enter Tryz.func189,Tryz.ntmps189;go_wp2;go_ret;exact ⟨rfl,rfl⟩
theorem Y0l (w:World) (u v:Value) (a b:List Int) (hu:Q0d w u a) (hv:Q0d w v b) :
    Calls Tryz.prog 190 #[u,v] w fun e w'=>e=.returned (.int .i64 (cmpL a b)) /\ w=w':=by
 obtain ⟨A,ca,rfl,hla,hcapa,hca⟩:=hu.opened;obtain ⟨B,cb,rfl,hlb,hcapb,hcb⟩:=hv.opened;clear hu hv;go_enter Tryz.func190,Tryz.ntmps190;go_wp2
 go_loop [11] (fun i=>∃ k:Nat,k <= a.length /\ i=.int .i64 k /\ cmpL (a.drop k) (b.drop k)=cmpL a b) (fun i=>a.length - (intOf i).toNat)
 case atStart=>exact ⟨0,Nat.zero_le _,rfl,rfl⟩
 case round =>
  obtain ⟨k,hk,rfl,hr⟩:=hrel;have HR:=hid hr; clear hr
  by_cases hlt:k < a.length
  . obtain ⟨b1,off1,rfl,hc1⟩:=hca k hlt
    by_cases hlt2:k < b.length
    . obtain ⟨b2,off2,rfl,hc2⟩:=hcb k hlt2
      have HS:=hid (Z3o hlt hlt2);obtain ⟨x,hx⟩:∃ x,ix a k=x:=⟨_,rfl⟩;obtain ⟨y,hy⟩:∃ y,ix b k=y:=⟨_,rfl⟩;rw [hx,hy] at HS;rw [hx] at hc1;rw [hy] at hc2;clear hx hy hca hcb
      by_cases he:x=y
      . have hz:(Y0v x y != 0)=false:=by unfold Y0v; subst he; simp
        have HE:=hid he; clear he;go_wp2_with (go_at_call 189; refine (X1v _ _ _).mono ?_; rintro e w' ⟨rfl,rfl⟩);go_round
        case rel=>exact ⟨k + 1,by omega,by go_num,by rw [<- HR.out,HS.out,if_pos HE.out]⟩
        case measure=>simp [intOf]; omega
      . have hz:(Y0v x y != 0)=true:=by
         unfold Y0v
         rcases Int.lt_or_gt_of_ne he with h | h
         . rw [if_pos h]; rfl
         . rw [if_neg (by omega),if_pos h]; rfl
        have HE:=hid he; clear he;go_wp2_with (go_at_call 189; refine (X1v _ _ _).mono ?_; rintro e w' ⟨rfl,rfl⟩);go_ret;exact ⟨Q1d (by rw [<- HR.out,HS.out,if_neg HE.out]),rfl⟩
    . have HS:=hid (Z7m hlt (Nat.le_of_not_lt hlt2))
      clear hca hcb;go_wp2;go_ret;exact ⟨Q1d (by rw [<- HR.out,HS.out]),rfl⟩
  . have hke:k=a.length:=by omega
    by_cases hlt2:a.length < b.length
    . have HS:=hid (Z8m (Nat.le_of_not_lt hlt) (by rw [hke]; exact hlt2))
      clear hca hcb hke;go_wp2;go_ret;exact ⟨Q1d (by rw [<- HR.out,HS.out]),rfl⟩
    . have HS:=hid (cmpL_eq (Nat.le_of_not_lt hlt) (show b.length <= k by omega))
      clear hca hcb hke;go_wp2;go_ret;exact ⟨Q1d (by rw [<- HR.out,HS.out]),rfl⟩
theorem Y8u (w:World) (g:Nat) (x y:Int) (h0:w.cell? ⟨g,0,none⟩=some (.int .i64 x)) (h1:w.cell? ⟨g,1,none⟩=some (.int .i64 y)) :
    Calls Tryz.prog 188 #[.slice (some ⟨g,0,none⟩) 2 2] w fun e w'=>e=.returned (.int .i64 (if x=0 then y else x)) /\ w=w':=by
 have HC:Hid (∀ k,k < 2 -> w.cell? ⟨g,0 + k,none⟩=some (.int .i64 (ix [x,y] k))):=hid (fun k hk=>match k,hk with | 0,_=>h0 | 1,_=>h1)
 have HE:Hid (Q0g [x,y]=if x=0 then y else x):=hid (by
  show (if x=0 then (if y=0 then 0 else y) else x)=_
  split
  . split <;> simp_all
  . rfl)
 rw [<- HE.out];clear h0 h1;obtain ⟨l,hl⟩:∃ l,[x,y]=l:=⟨_,rfl⟩;have hl2:l.length=2:=by rw [<- hl]; rfl
 rw [hl] at HC ⊢;have HL2:=hid hl2;clear HE hl hl2;go_enter Tryz.func188,Tryz.ntmps188;go_wp2
 go_loop [8] (fun i=>∃ k:Nat,k <= 2 /\ i=.int .i64 k /\ Q0g (l.drop k)=Q0g l) (fun i=>2 - (intOf i).toNat)
 case atStart=>exact ⟨0,Nat.zero_le _,rfl,rfl⟩
 case round =>
  obtain ⟨k,hk,rfl,hr⟩:=hrel;have HR:=hid hr; clear hr
  by_cases hlt:k < 2
  . have hc:=HC.out k hlt
    have hst:Q0g (l.drop k)=if ix l k=0 then Q0g (l.drop (k + 1)) else ix l k:=by rw [Q3b (by rw [HL2.out]; exact hlt)]; rfl
    obtain ⟨z,hz⟩:∃ z,ix l k=z:=⟨_,rfl⟩;rw [hz] at hc hst;have HST:=hid hst;rw [Nat.zero_add] at hc;clear hst hz
    by_cases he:z=0
    . have hzb:(z != 0)=false:=by simp [he]
      have HE:=hid he; clear he;go_wp2;go_round
      case rel=>exact ⟨k + 1,by omega,by go_num,by rw [<- HR.out,HST.out,if_pos HE.out]⟩
      case measure=>simp [intOf]; omega
    . have hzb:(z != 0)=true:=by simp [he]
      have HE:=hid he; clear he;go_wp2;go_ret;exact ⟨Q1d (by rw [<- HR.out,HST.out,if_neg HE.out]),rfl⟩
  . go_wp2
    go_ret;exact ⟨Q1d (by rw [<- HR.out,List.drop_eq_nil_of_le (by rw [HL2.out]; omega)]; rfl),rfl⟩
theorem X3d (w:World) (u v:Value) (a b:List Int) (hu:Q0d w u a) (hv:Q0d w v b) :
    Calls Tryz.prog 160 #[u,v] w fun e w'=>e=.returned (.int .i64 (X7z a b)) /\ ∃ o,w'=w.alloc o:=by
 have HU:=hid hu;have HV:=hid hv;obtain ⟨A,ca,rfl,hla,hcapa,hca⟩:=hu.opened;obtain ⟨B,cb,rfl,hlb,hcapb,hcb⟩:=hv.opened;clear hu hv hca hcb;have HOR:Hid (∀ (x y:Int),Calls Tryz.prog 188 #[.slice (some ⟨w.heap.size,0,none⟩) 2 2] (w.alloc (.cells #[.int .i64 x,.int .i64 y] 3)) fun e w'=>e=.returned (.int .i64 (if x=0 then y else x)) /\ (w.alloc (.cells #[.int .i64 x,.int .i64 y] 3))=w'):=hid (fun x y=>Y8u _ w.heap.size x y ((Blk.made _ _ _).cell 0) ((Blk.made _ _ _).cell 1))
 have HH:Hid ((if Y0v a.length b.length=0 then cmpL a b else Y0v a.length b.length)=X7z a b):=hid rfl
 go_enter Tryz.func160,Tryz.ntmps160;go_wp2_with (first | (go_at_call 190; refine (Y0l _ _ _ a b HU.out HV.out).mono ?_; rintro e w' ⟨rfl,rfl⟩) | (go_at_call 189; refine (X1v _ _ _).mono ?_; rintro e w' ⟨rfl,rfl⟩) | (go_at_call 188; refine (HOR.out _ _).mono ?_; rintro e w' ⟨rfl,rfl⟩; rw [HH.out]))
 go_ret;exact ⟨rfl,_,rfl⟩
theorem Q9i (w:World) (u v:Value) (a b:List Int) (hu:Q0d w u a) (hv:Q0d w v b) :
    Calls Tryz.prog 162 #[u,v] w fun e w'=>e=.returned (.bool (X7z a b == 0)) /\ ∃ o,w'=w.alloc o:=by
 have HU:=hid hu;have HV:=hid hv;obtain ⟨A,ca,rfl,hla,hcapa,hca⟩:=hu.opened;obtain ⟨B,cb,rfl,hlb,hcapb,hcb⟩:=hv.opened;clear hu hv hca hcb;go_enter Tryz.func162,Tryz.ntmps162;go_wp2_with (go_at_call 160; refine (X3d _ _ _ a b HU.out HV.out).mono ?_; rintro e w' ⟨rfl,o,rfl⟩);go_ret;exact ⟨rfl,_,rfl⟩
end Go.Proofs
