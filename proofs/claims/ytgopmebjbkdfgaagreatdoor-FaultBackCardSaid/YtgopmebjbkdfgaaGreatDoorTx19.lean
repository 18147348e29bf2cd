/- Contracts: Given. -/
import Derived.Test.YtgopmebjbkdfgaaGreatDoorTx15
import Derived.Test.YtgopmebjbkdfgaaGreatDoorTx16
set_option maxRecDepth 1000000
set_option maxHeartbeats 64000000
set_option linter.unusedVariables false
set_option linter.unusedSimpArgs false
set_option linter.constructorNameAsVariable false
namespace Go.Proofs
open Go.RowKit Go.Tw Go.Flow
theorem Tryz.Q2n (w:World):(isAgg 33).run Tryz.prog w = .ok true w:=by kernel_rfl
theorem Tryz.Q0v (w:World):(sizeOf 33).run Tryz.prog w = .ok 3 w:=by kernel_rfl
theorem Y6r (w:World) (x:Int) (B:Nat) (u:Value) (l:List Int) (hB:w.cell? ⟨B,0,none⟩ = some u) (hu:Q0e w u l) :
    Calls Tryz.prog 77 #[.int .i64 x,.pointer (some ⟨B,0,none⟩)] w fun e w'=>e = .returned (.bool (has l x)) /\ Ext w w':=by
 obtain ⟨A,cap,rfl,hl,hcap,hc⟩:=hu.opened;have HV:=Lib.hid hu;clear hu hc;go_enter Tryz.func77,Tryz.ntmps77;go_wp2_with (go_at_call 78; refine (X1t _ _ l x HV.out).mono ?_; rintro e w' ⟨rfl,rfl⟩);go_ret;exact ⟨rfl,Ext.refl _⟩
def Q6i (t:Tree) (a b:List Int):Int:=Q0g [Q0h t a,Q0h t b,Q0l (a.any (has b)) 30]
def X0d (t:Tree) (a b:List Int):Int:=Q1i t (Q1u (Q1u t.Q0b a 16) b 0) 0
def X5d (t:Tree) (a b:List Int):Ratio:=if Q6i t a b = 0 then lowest (X0d t a b) (Q7g 16 t.size) else ⟨0,0⟩
theorem X8u {t:Tree} {a b:List Int} (h:Q6i t a b = 0):Q0h t a = 0 /\ Q0h t b = 0:=by
 unfold Q6i at h;rw [Q1h] at h;exact ⟨h _ (by simp),h _ (by simp)⟩
theorem X7q (w:World) (v u z:Value) (t:Tree) (a b:List Int) (ht:IsTree w v t) (hu:Q0e w u a) (hz:Q0e w z b) :
    Calls Tryz.prog 24 #[v,u,z] w fun e w'=>e = .returned (.tuple #[.agg (encR (X5d t a b)),.int .i64 (Q6i t a b)]) /\ Ext w w':=by
 obtain ⟨Au,capu,rfl,_,_,_⟩:=hu.opened;obtain ⟨Az,capz,rfl,_,_,_⟩:=hz.opened;have HU:=Lib.hid hu;have HZ:=Lib.hid hz;clear hu hz;obtain ⟨E1,hE1⟩:∃ E,Q0h t a = E:=⟨_,rfl⟩;obtain ⟨E2,hE2⟩:∃ E,Q0h t b = E:=⟨_,rfl⟩;obtain ⟨q,hq⟩:∃ q,a.any (has b) = q:=⟨_,rfl⟩;obtain ⟨E,hE⟩:∃ E,Q0g [E1,E2,Q0l q 30] = E:=⟨_,rfl⟩;have HFIN:Hid (Q6i t a b = E):=Lib.hid (by unfold Q6i; rw [hE1,hE2,hq]; exact hE)
 have HE:Hid (∀ (w':World) (u:Value),Q0e w' u [E1,E2,Q0l q 30] -> Calls Tryz.prog 48 #[u] w' fun e w''=>e = .returned (.int .i64 E) /\ w' = w''):=by
  exact (by intro w' u h; rw [<- hE]; exact first_any _ _ _ h:∀ (w':World) (u:Value),Q0e w' u [E1,E2,Q0l q 30] -> Calls Tryz.prog 48 #[u] w' fun e w''=>e = .returned (.int .i64 E) /\ w' = w'')
 have HCA:Hid (∀ (w':World) (v u:Value),IsTree w' v t -> Q0e w' u a -> Calls Tryz.prog 75 #[v,u] w' fun e w''=>e = .returned (.int .i64 E1) /\ Ext w' w''):=by
  exact (by intro w' v u h1 h2; rw [<- hE1]; exact Q5i _ _ _ _ _ h1 h2:∀ (w':World) (v u:Value),IsTree w' v t -> Q0e w' u a -> Calls Tryz.prog 75 #[v,u] w' fun e w''=>e = .returned (.int .i64 E1) /\ Ext w' w'')
 have HCB:Hid (∀ (w':World) (v u:Value),IsTree w' v t -> Q0e w' u b -> Calls Tryz.prog 75 #[v,u] w' fun e w''=>e = .returned (.int .i64 E2) /\ Ext w' w''):=by
  exact (by intro w' v u h1 h2; rw [<- hE2]; exact Q5i _ _ _ _ _ h1 h2:∀ (w':World) (v u:Value),IsTree w' v t -> Q0e w' u b -> Calls Tryz.prog 75 #[v,u] w' fun e w''=>e = .returned (.int .i64 E2) /\ Ext w' w'')
 have HCF:Hid (∀ (w':World) (B:Nat),w'.cell? ⟨B,0,none⟩ = some (.slice Az b.length capz) -> Q0e w' (.slice Au a.length capu) a -> Q0e w' (.slice Az b.length capz) b -> Calls Tryz.prog 76 #[.slice Au a.length capu,.func (.func 77) #[] #[.pointer (some ⟨B,0,none⟩)]] w' fun e w''=>e = .returned (.bool q) /\ Ext w' w''):=by
  exact (by intro w' B h1 h2 h3; rw [<- hq]; exact Q7p _ _ a 77 _ (has b) h2 (enters_of Tryz.func77 (by kernel_rfl) rfl) (fun W x hx _=>Y6r W x B _ b (hx.cell h1) (h3.ext hx)):∀ (w':World) (B:Nat),w'.cell? ⟨B,0,none⟩ = some (.slice Az b.length capz) -> Q0e w' (.slice Au a.length capu) a -> Q0e w' (.slice Az b.length capz) b -> Calls Tryz.prog 76 #[.slice Au a.length capu,.func (.func 77) #[] #[.pointer (some ⟨B,0,none⟩)]] w' fun e w''=>e = .returned (.bool q) /\ Ext w' w'')
 have HEQ:=Lib.hid hE1;have HEQ2:=Lib.hid hE2;clear hE hE1 hE2 hq;obtain ⟨a,b,c,rfl,h3⟩:=ht;obtain ⟨A,capa,rfl,hl1,hcap1,_⟩:=h3.basics.opened;obtain ⟨B,capb,rfl,hl2,hcap2,_⟩:=h3.causes.opened;obtain ⟨G,capg,rfl,hl3,hcap3,_⟩:=h3.gates.opened;have HT0:=Lib.hid h3;clear h3;go_enter Tryz.func24,Tryz.ntmps24;go_wp2;change Code.wp _ _ _ _ (((w.alloc (.cells #[.slice A t.basics.length capa,.slice B t.causes.length capb,.slice G t.gates.length capg] 33)).alloc (.cells #[.slice Az b.length capz] 40)).alloc (.cells #[.int .i64 0,.int .i64 0] 52));obtain ⟨W,hWW,k0,k1,k2,HXW,eW⟩:=X8e w 33 #[.slice A t.basics.length capa,.slice B t.causes.length capb,.slice G t.gates.length capg] 40 #[.slice Az b.length capz] 52 #[.int .i64 0,.int .i64 0];rw [hWW];clear hWW;have HT:=Lib.hid (HT0.out.ext HXW.out);have HUW:=Lib.hid (HU.out.ext HXW.out);have HZW:=Lib.hid (HZ.out.ext HXW.out);have K0:=Lib.hid k0;have K1:=Lib.hid k1;have hdr:=(Ext.refl W).drew;refine Flow.Q2p [.w,.p,.w,.w,.w,.w,.p,.p,.w,.w,.w,.w,.p] [0,1,2,3,4,5,6,7,8,9,10,11,12] [[],[],[0,1],[],[],[2,3,4],[],[],[5,6,7],[8],[2,5,9],[9,10],[0,1,2,3,4,5,6,7,8,9,10,11]]
  [.c 0 (.agg #[.slice A t.basics.length capa,.slice B t.causes.length capb,.slice G t.gates.length capg]),.c 1 (.slice Au a.length capu),.c 2 (.int .i64 E1),.c 3 (.agg #[.slice A t.basics.length capa,.slice B t.causes.length capb,.slice G t.gates.length capg]),.c 4 (.slice Az b.length capz),.c 5 (.int .i64 E2),.c 6 (.slice Au a.length capu),.c 7 (.func (.func 77) #[] #[.pointer (some ⟨w.heap.size + 1,0,none⟩)]),.c 8 (.bool q),.c 9 (.int .i64 (Q0l q 30)),⟨fun v wz=>Q0e wz (v 10) [E1,E2,Q0l q 30],fun _ _ _ hx h=>h.ext hx⟩,.c 11 (.int .i64 E),.c 12 (.int .i64 E)]
  (by kernel_rfl) rfl (by kernel_rfl) ⟨?g0,?g1,?g2,?g3,?g4,?g5,?g6,?g7,?g8,?g9,?g10,?g11,?g12,trivial⟩ ?post
 case g0 | g3=>
  intro v w1 hx;intro bb hbb;intro K hK;have o1:bb.eval (.tmp 3) = .pointer (some ⟨w.heap.size,0,none⟩):=by rw [hbb]; dsimp only; (try simp (discharger:=decide) only [eval_put_ne]); rfl
  exact Q0n (.tmp 3) _ rfl Tryz.Q2n Tryz.Q0v o1 (K0.out.ext (hdr.trans hx)) rfl (hK _ _ (Ext.refl _) rfl)
 case g1 | g6 | g7=>
  intro v w1 hx;intro bb hbb;subst hbb;refine ⟨_,fun w=>?_,rfl⟩;go_simp
 case g2=>
  intro v w1 hx;(repeat intro (zq:v _ = _));intro bb hbb;subst hbb;intro K hK;go_simp;refine Q0d (HCA.out w1 _ _ ⟨_,_,_,rfl,HT.out.ext (hdr.trans hx)⟩ (HUW.out.ext (hdr.trans hx))) ?_;rintro e w2 ⟨rfl,hx2⟩;exact ⟨_,rfl,hK _ _ hx2 rfl⟩
 case g4=>
  intro v w1 hx;intro bb hbb;subst hbb;have n0:w1.cell? ⟨w.heap.size + 1,0,none⟩ = some (.slice Az b.length capz):=(K1.out.ext (hdr.trans hx)).cell 0;intro K hK;go_simp;exact hK _ _ (Ext.refl _) rfl
 case g5=>
  intro v w1 hx;(repeat intro (zq:v _ = _));intro bb hbb;subst hbb;intro K hK;go_simp;refine Q0d (HCB.out w1 _ _ ⟨_,_,_,rfl,HT.out.ext (hdr.trans hx)⟩ (HZW.out.ext (hdr.trans hx))) ?_;rintro e w2 ⟨rfl,hx2⟩;exact ⟨_,rfl,hK _ _ hx2 rfl⟩
 case g8=>
  intro v w1 hx;(repeat intro (zq:v _ = _));intro bb hbb;subst hbb;intro K hK;go_simp;refine Q0d (HCF.out w1 _ ((K1.out.ext (hdr.trans hx)).cell 0) (HUW.out.ext (hdr.trans hx)) (HZW.out.ext (hdr.trans hx))) ?_;rintro e w2 ⟨rfl,hx2⟩;exact ⟨_,rfl,hK _ _ hx2 rfl⟩
 case g9=>
  intro v w1 hx;(repeat intro (zq:v _ = _));intro bb hbb;subst hbb;intro K hK;go_simp;refine Q0d (Q5j _ _ _) ?_;rintro e w2 ⟨rfl,rfl⟩;exact ⟨_,rfl,hK _ _ (Ext.refl _) rfl⟩
 case g10=>
  intro v w1 hx;(repeat intro (zq:v _ = _));intro bb hbb;subst hbb;intro K hK;go_simp;exact hK _ _ (Ext.box _ _) (Q3h (l:=[E1,E2,Q0l q 30]) (by simp))
 case g11=>
  intro v w1 hx (q9:v 9 = _) (q10:Q0e w1 (v 10) [E1,E2,Q0l q 30]);intro bb hbb;subst hbb;intro K hK;go_simp;refine Q0d (HE.out _ _ q10) ?_;rintro e w2 ⟨rfl,rfl⟩;exact ⟨_,rfl,hK _ _ (Ext.refl _) rfl⟩
 case g12=>
  intro v w1 hx (q0:v 0 = _) (q1:v 1 = _) (q2:v 2 = _) (q3:v 3 = _) (q4:v 4 = _) (q5:v 5 = _) (q6:v 6 = _) (q7:v 7 = _) (q8:v 8 = _) (q9:v 9 = _) _ (q11:v 11 = _);intro bb hbb;subst hbb;refine ⟨_,fun w=>?_,rfl⟩;go_simp
 case post =>
  intro v w1 hx (q0:v 0 = _) (q1:v 1 = _) (q2:v 2 = _) (q3:v 3 = _) (q4:v 4 = _) (q5:v 5 = _) (q6:v 6 = _) (q7:v 7 = _) (q8:v 8 = _);(iterate 1 intro (zq:v _ = _));intro (q10:Q0e w1 (v 10) [E1,E2,Q0l q 30]);(iterate 2 intro (zq:v _ = _));simp only [Flow.All,Flow.acts,Act.put];go_simp;have hx1:=hdr.trans hx;have HX1:=Lib.hid hx1;have HXX:=Lib.hid (HXW.out.trans hx1);have kt:=k0.ext hx1;have c0:=kt.cell 0;have c1:=kt.cell 1;have c2:=kt.cell 2;simp only [Go.Tw.gA,Go.Tw.gB,Go.Tw.gC] at c0 c1 c2;have cz:w1.cell? ⟨w.heap.size + 1,0,none⟩ = some (.slice Az b.length capz):=(k1.ext hx1).cell 0;have hbr:=k2.ext hx1;have HUX:=Lib.hid (HUW.out.ext hx1);have HZX:=Lib.hid (HZW.out.ext hx1);clear kt k0 k1 k2 hx1 hx K0 K1 HUW HZW HCA HCB HCF HE
  by_cases hE0:E = 0
  . have hne:(E != 0) = false:=by simp [hE0]
    have hz:=X8u (HFIN.out.trans hE0);have hs1:=Q4g hz.1;have hs2:=Q4g hz.2;have HV:=Lib.hid hs1.1;have hsz:=hs1.1.size;have hb1:=(Q2x hs1.2).1;have hb2:=(Q2x hs2.2).1;have HR:Hid (X5d t a b = lowest (X0d t a b) (Q7g 16 t.size)):=Lib.hid (by unfold X5d; rw [if_pos (HFIN.out.trans hE0)])
    have HE0:Hid (Q6i t a b = 0):=Lib.hid (HFIN.out.trans hE0);clear hE0 hz hs1 hs2;go_wp2_with fail;refine (Q3i _ _ t HV.out ⟨_,_,_,rfl,HT.out.ext HX1.out⟩).mono ?_;rintro e w2 ⟨fv,gv,rfl,hn,hx2⟩;obtain ⟨A1,cap1,rfl,_,_,_⟩:=hn.fails.opened;obtain ⟨A2,cap2,rfl,_,_,_⟩:=hn.gates.opened;rw [Q2g] at hn ⊢;have HN:=Lib.hid hn;have HX2:=Lib.hid hx2;clear hn hx2 c0 c1 c2;replace hbr:=hbr.ext HX2.out;have hbl:=hbr.lt;replace cz:=HX2.out.cell cz;have HUY:=Lib.hid (HUX.out.ext HX2.out);have HZY:=Lib.hid (HZX.out.ext HX2.out);go_wp2_with (first | (refine Q0i rfl _ 129 rfl Tryz.Q1s Tryz.Q0r rfl hb9 rfl ?_) | (refine Q1x rfl _ 124 rfl Tryz.Q6u Tryz.Q3z rfl (Q1w hb9) rfl ?_) | (refine Q0c rfl _ _ 129 rfl Tryz.Q0r rfl rfl (Blk.made _ _ _) rfl rfl ?_ ?_; (focus (intro u hu; simp [outA] at hu; rcases hu with rfl | rfl | rfl | rfl | rfl | rfl | rfl | rfl | rfl | rfl | rfl | rfl | rfl | rfl | rfl | rfl <;> rfl)); intro w9 hb9 hl9 ho9) | fail)
    have hx9:Ext w2 w9:=Below.trans (Ext.box w2 _) (hl9 _ (Nat.le_refl _));have HXX9:Hid (Ext w w9):=by exact (HXX.out.trans HX2.out).trans hx9
    have HN9:=Lib.hid (HN.out.ext hx9);have HBR:=Lib.hid (hbr.ext hx9);have HB9:=Lib.hid hb9;replace cz:=hx9.cell cz;have HU9:=Lib.hid (HUY.out.ext hx9);have HZ9:=Lib.hid (HZY.out.ext hx9);have hbl9:=(hbr.ext hx9).lt;clear hl9 ho9 hb9 hx9 hbr;have hlen:=Q4v t;have hsm:=HV.out.small;have hs16:=Small.put (l:=a) hsm (n:=16) (by omega) (by omega)
    have hs0:=Small.put (l:=b) hs16 (n:=0) (by omega) (by omega)
    have hpb:=X4n hsz;have hl16:(Q1u t.Q0b a 16).length = t.size:=by rw [Q7x,hlen]
    have hl0:(Q1u (Q1u t.Q0b a 16) b 0).length = t.size:=by rw [Q7x,hl16]
    have HS16:Hid (∀ w',Ext w9 w' -> Calls Tryz.prog 79 #[chV t.Q0b,.slice Au a.length capu,.int .i64 16] w' fun e w''=>e = .returned (chV (Q1u t.Q0b a 16)) /\ Ext w' w''):=by
     exact (fun w' hx=>set_any w' t.Q0b a _ 16 (HU9.out.ext hx) (by rw [hlen]; exact hsz) (by rw [hlen]; exact hb1):∀ w',Ext w9 w' -> Calls Tryz.prog 79 #[chV t.Q0b,.slice Au a.length capu,.int .i64 16] w' fun e w''=>e = .returned (chV (Q1u t.Q0b a 16)) /\ Ext w' w'')
    have HS0:Hid (∀ w',Ext w9 w' -> Calls Tryz.prog 79 #[chV (Q1u t.Q0b a 16),.slice Az b.length capz,.int .i64 0] w' fun e w''=>e = .returned (chV (Q1u (Q1u t.Q0b a 16) b 0)) /\ Ext w' w''):=by
     exact (fun w' hx=>set_any w' (Q1u t.Q0b a 16) b _ 0 (HZ9.out.ext hx) (by rw [hl16]; exact hsz) (by rw [hl16]; exact hb2):∀ w',Ext w9 w' -> Calls Tryz.prog 79 #[chV (Q1u t.Q0b a 16),.slice Az b.length capz,.int .i64 0] w' fun e w''=>e = .returned (chV (Q1u (Q1u t.Q0b a 16) b 0)) /\ Ext w' w'')
    have HP:Hid (∀ w',Ext w9 w' -> Calls Tryz.prog 71 #[noV t t.Q0b (.slice A1 t.size cap1) (.slice A2 t.gates.length cap2),chV (Q1u (Q1u t.Q0b a 16) b 0)] w' fun e w''=>e = .returned (.agg (Q8u (X0d t a b) (Q7g 16 t.size))) /\ Ext w' w''):=by
     exact (fun w' hx=>Q4f w' _ _ t t.Q0b _ HV.out (HN9.out.ext hx) hs0 hl0:∀ w',Ext w9 w' -> Calls Tryz.prog 71 #[noV t t.Q0b (.slice A1 t.size cap1) (.slice A2 t.gates.length cap2),chV (Q1u (Q1u t.Q0b a 16) b 0)] w' fun e w''=>e = .returned (.agg (Q8u (X0d t a b) (Q7g 16 t.size))) /\ Ext w' w'')
    have hdr:=(Ext.refl w9).drew;clear hb1 hb2 hlen hsm hs16 hs0 hl16 hl0 HU9 HZ9 HUX HZX HUY HZY;refine Flow.Q3x [.w,.p,.p,.w,.p,.w,.w,.w,.w,.last,.last] [0,1,2,3,4,5,6,7,8,9,10] [[],[],[1],[1,2],[],[1,2,3,4],[],[1,2,3,4,5,6],[0,1,2,3,4,5,6,7],[0,1,2,3,4,5,6,7,8],[0,1,2,3,4,5,6,7,8,9]] [9,10]
     [.c 0 (noV t t.Q0b (.slice A1 t.size cap1) (.slice A2 t.gates.length cap2)),.c 1 (.pointer (some ⟨w2.heap.size,0,none⟩)),.c 2 (.pointer (some ⟨w2.heap.size,2,none⟩)),.c 3 (chV t.Q0b),.c 4 (.slice Au a.length capu),.c 5 (chV (Q1u t.Q0b a 16)),.c 6 (.slice Az b.length capz),.c 7 (chV (Q1u (Q1u t.Q0b a 16) b 0)),.c 8 (.agg (Q8u (X0d t a b) (Q7g 16 t.size))),.none,.none]
     [fun v w1 w'=>Blk w' (w.heap.size + 1 + 1) 52 (Q8u (X0d t a b) (Q7g 16 t.size)) /\ Below w.heap.size w1 w',fun v w1 w'=>v 10 = .int .i64 0 /\ Blk w' (w.heap.size + 1 + 1) 52 (Q8u (X0d t a b) (Q7g 16 t.size)) /\ Below w.heap.size w1 w'] (by kernel_rfl) rfl (by kernel_rfl) ⟨?g0,?g1,?g2,?g3,?g4,?g5,?g6,?g7,?g8,?g9,?g10,trivial⟩ ?post
    case g0=>
     intro v w1 hx;intro bb hbb;intro K hK;have o1:bb.eval (.tmp 9) = .pointer (some ⟨w2.heap.size,0,none⟩):=by rw [hbb]; dsimp only; (try simp (discharger:=decide) only [eval_put_ne]); rfl
     exact Q0n (.tmp 9) _ rfl Tryz.Q1s Tryz.Q0r o1 (HB9.out.ext (hdr.trans hx)) rfl (hK _ _ (Ext.refl _) rfl)
    case g1 | g4=>
     intro v w1 hx;intro bb hbb;subst hbb;refine ⟨_,fun w=>?_,rfl⟩;go_simp
    case g2=>
     intro v w1 hx;(repeat intro (zq:v _ = _));intro bb hbb;subst hbb;refine ⟨_,fun w=>?_,rfl⟩;go_simp
    case g3=>
     intro v w1 hx;(repeat intro (zq:v _ = _));intro bb hbb;intro K hK;have o1:bb.eval (.tmp 30) = .pointer (some ⟨w2.heap.size,2,none⟩):=by rw [hbb]; dsimp only; (try simp (discharger:=decide) only [eval_put_ne]); rw [Q0a (by simp only [size_put]; exact (by decide:30 < 37))]; assumption
     exact Q2q (.tmp 30) _ rfl Tryz.Q6u Tryz.Q3z o1 ((Q1w HB9.out).ext (hdr.trans hx)) rfl (hK _ _ (Ext.refl _) rfl)
    case g5=>
     intro v w1 hx;(repeat intro (zq:v _ = _));intro bb hbb;subst hbb;intro K hK;go_simp;refine Q0d (HS16.out _ (hdr.trans hx)) ?_;rintro e w2 ⟨rfl,hx2⟩;exact ⟨_,rfl,hK _ _ hx2 rfl⟩
    case g6=>
     intro v w1 hx;intro bb hbb;subst hbb;have cz:=hx.cell cz;intro K hK;go_simp;exact hK _ _ (Ext.refl _) rfl
    case g7=>
     intro v w1 hx;(repeat intro (zq:v _ = _));intro bb hbb;subst hbb;intro K hK;go_simp;refine Q0d (HS0.out _ (hdr.trans hx)) ?_;rintro e w2 ⟨rfl,hx2⟩;exact ⟨_,rfl,hK _ _ hx2 rfl⟩
    case g8=>
     intro v w1 hx;(repeat intro (zq:v _ = _));intro bb hbb;subst hbb;intro K hK;go_simp;refine Q0d (HP.out _ (hdr.trans hx)) ?_;rintro e w2 ⟨rfl,hx2⟩;exact ⟨_,rfl,hK _ _ hx2 rfl⟩
    case g9=>
     intro v w1 hx;(repeat intro (zq:v _ = _));intro wl hT;obtain rfl:wl = w1:=hT;intro bb hbb;intro K hK;have o1:bb.eval (.tmp 6) = .pointer (some ⟨w.heap.size + 1 + 1,0,none⟩):=by rw [hbb]; dsimp only; (try simp (discharger:=decide) only [eval_put_ne]); rfl
     have o2:bb.eval (.tmp 36) = .agg (Q8u (X0d t a b) (Q7g 16 t.size)):=by rw [hbb]; dsimp only; (try simp (discharger:=decide) only [eval_put_ne]); rw [Q0a (by simp only [size_put]; exact (by decide:36 < 37))]; assumption
     exact Q2z (.tmp 6) (.tmp 36) _ rfl Tryz.Q1q o1 o2 (HBR.out.ext (hdr.trans hx)) rfl rfl (Q5z _ _) (fun vv w' hb hl ho=>hK _ _ ⟨hb,hl _ (by omega)⟩)
    case g10=>
     intro v w1 hx;(repeat intro (zq:v _ = _));intro wl hT;replace hT:(fun v w1 w'=>Blk w' (w.heap.size + 1 + 1) 52 (Q8u (X0d t a b) (Q7g 16 t.size)) /\ Below w.heap.size w1 w') v w1 wl:=hT;intro bb hbb;subst hbb;intro K hK;go_simp;exact hK _ _ ⟨rfl,hT⟩
    case post =>
     intro v w1 hx;(iterate 9 intro (zq:v _ = _));intro w2 hE;replace hE:(fun v w1 w'=>v 10 = .int .i64 0 /\ Blk w' (w.heap.size + 1 + 1) 52 (Q8u (X0d t a b) (Q7g 16 t.size)) /\ Below w.heap.size w1 w') v w1 w2:=hE;simp only [Flow.acts,Act.put];go_simp;obtain ⟨hz9,hb8,hl8⟩:=hE;go_wp2;refine bodyPost_ret (Q0q Tryz.results24 rfl hb8 Tryz.Q5d Tryz.Q1q rfl) rfl ?_;exact ⟨by rw [HR.out,HE0.out]; simp [hz9]; rfl,Below.trans (HXX9.out.trans (hdr.trans hx)) hl8⟩
  . have HR:Hid (X5d t a b = ⟨0,0⟩):=Lib.hid (by unfold X5d; rw [if_neg (by rw [HFIN.out]; exact hE0)])
    have hne:(E != 0) = true:=by simp [hE0]
    clear hE0 c0 c1 c2 cz;go_wp2_with (refine Q0c rfl _ _ _ rfl Tryz.Q1q rfl rfl hbr rfl rfl ?_ ?_; (focus (exact Q7i ⟨0,0⟩)); intro w8 hb8 hl8 ho8);refine bodyPost_ret (Q0q Tryz.results24 rfl hb8 Tryz.Q5d Tryz.Q1q rfl) rfl ?_;exact ⟨by rw [HR.out,HFIN.out]; rfl,Below.trans HXX.out (hl8 _ (by omega))⟩
end Go.Proofs
