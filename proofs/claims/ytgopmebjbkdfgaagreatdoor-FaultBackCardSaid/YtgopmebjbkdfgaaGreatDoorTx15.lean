/- Contracts: checkEvent, Importance. Contract: Share. Guarded operations of a region: the guard looked up in the frame under a name. -/
import Derived.Test.YtgopmebjbkdfgaaGreatDoorTx14
set_option maxRecDepth 1000000
set_option maxHeartbeats 64000000
set_option linter.unusedVariables false
set_option linter.unusedSimpArgs false
set_option linter.constructorNameAsVariable false
namespace Go.Proofs
open Go.RowKit Go.Tw Go.Flow
theorem Q6m (w:World) (v:Value) (t:Tree) (n:Int) (ht:IsTree w v t) :
    Calls Tryz.prog 90 #[v,.int .i64 n] w fun e w'=>e = .returned (.int .i64 (Q0h t [n])) /\ Ext w w':=by
 obtain ⟨a,b,c,rfl,h3⟩:=ht;obtain ⟨A,capa,rfl,hl1,hcap1,_⟩:=h3.basics.opened;obtain ⟨B,capb,rfl,hl2,hcap2,_⟩:=h3.causes.opened;obtain ⟨G,capg,rfl,hl3,hcap3,_⟩:=h3.gates.opened;have HT0:=Lib.hid h3;clear h3;go_enter Tryz.func90,Tryz.ntmps90;go_wp2_with fail;change Calls _ _ _ ((w.alloc (.cells #[.slice A t.basics.length capa,.slice B t.causes.length capb,.slice G t.gates.length capg] 33)).alloc (.cells #[.int .i64 n] 3)) _;obtain ⟨W,hWW,k0,k1,HXW,eW⟩:=Q5l w 33 #[.slice A t.basics.length capa,.slice B t.causes.length capb,.slice G t.gates.length capg] 3 #[.int .i64 n];rw [hWW];clear hWW;have hii:Q0e W (.slice (some ⟨w.heap.size + 1,0,none⟩) 1 1) [n]:=⟨fun _=>.int .i64 n,⟨_,1,rfl,by simp,by simp,fun j hj=>⟨_,0,rfl,by have:j = 0:=(by simpa using hj); subst this; exact k1.cell 0⟩⟩,fun j hj=>by have:j = 0:=(by simpa using hj); subst this; rfl⟩
 refine (Q5i _ _ _ t [n] ⟨_,_,_,rfl,HT0.out.ext HXW.out⟩ hii).mono ?_;rintro e w1 ⟨rfl,hx1⟩;have HXX:=Lib.hid (HXW.out.trans hx1);obtain ⟨E,hE⟩:∃ E,Q0h t [n] = E:=⟨_,rfl⟩;have HEE:=Lib.hid hE;rw [hE];clear hE;go_wp2;go_ret;exact ⟨Q0y HEE.out.symm,HXX.out⟩
theorem Small.put {c l:List Int} (h:Small c) {n:Int} (h0:0 <= n) (h1:n <= 16):Small (Q1u c l n):=by
 refine ⟨by simpa [Go.Tw.Q1u] using h.len,fun x hx=>?_⟩
 obtain ⟨i,hi,rfl⟩:=List.mem_map.1 hx
 split
 . exact ⟨h0,h1⟩
 . exact h.ix (List.mem_range.1 hi)
theorem Q7x (c l:List Int) (n:Int):(Q1u c l n).length = c.length:=by simp [Q1u]
theorem Q4v (t:Tree):t.Q0b.length = t.size:=by simp [Tree.Q0b]
def Z7j (t:Tree) (n:Int):Int:=Q1i t (Q1u t.Q0b [n] 16) 0 - Q1i t (Q1u t.Q0b [n] 0) 0
def Q5v (t:Tree) (n:Int):Ratio:=if Q0h t [n] = 0 then lowest (Z7j t n) (Q7g 16 t.size) else ⟨0,0⟩
theorem X5r (w:World) (v:Value) (t:Tree) (n:Int) (ht:IsTree w v t) (hnn:Q0h t [n] = 0 -> 0 <= Z7j t n) :
    Calls Tryz.prog 36 #[v,.int .i64 n] w fun e w'=>e = .returned (.tuple #[.agg (encR (Q5v t n)),.int .i64 (Q0h t [n])]) /\ Ext w w':=by
 obtain ⟨a,b,c,rfl,h3⟩:=ht;obtain ⟨A,capa,rfl,hl1,hcap1,_⟩:=h3.basics.opened;obtain ⟨B,capb,rfl,hl2,hcap2,_⟩:=h3.causes.opened;obtain ⟨G,capg,rfl,hl3,hcap3,_⟩:=h3.gates.opened;have HT0:=Lib.hid h3;clear h3;go_enter Tryz.func36,Tryz.ntmps36;go_wp2_with fail;change Calls _ _ _ ((w.alloc (.cells #[.slice A t.basics.length capa,.slice B t.causes.length capb,.slice G t.gates.length capg] 33)).alloc (.cells #[.int .i64 0,.int .i64 0] 52)) _;obtain ⟨W,hWW,k0,k1,HXW,eW⟩:=Q5l w 33 #[.slice A t.basics.length capa,.slice B t.causes.length capb,.slice G t.gates.length capg] 52 #[.int .i64 0,.int .i64 0];rw [hWW];clear hWW;have HT:=Lib.hid (HT0.out.ext HXW.out);refine (Q6m _ _ t n ⟨_,_,_,rfl,HT.out⟩).mono ?_;rintro e w1 ⟨rfl,hx1⟩;have kt:=k0.ext hx1;have c0:=kt.cell 0;have c1:=kt.cell 1;have c2:=kt.cell 2;simp only [Go.Tw.gA,Go.Tw.gB,Go.Tw.gC] at c0 c1 c2;have HXX:=Lib.hid (HXW.out.trans hx1);have HX1:=Lib.hid hx1;clear kt hx1;have hbr:=k1.ext HX1.out;clear k0 k1
 by_cases he:Q0h t [n] = 0
 . have hnn:=hnn he
   have HR:Hid (Q5v t n = lowest (Z7j t n) (Q7g 16 t.size)):=Lib.hid (by unfold Q5v; rw [if_pos he])
   have hz:=Q4g he;have hse:=Q2x hz.2;have hn0:=hse.1 n (List.mem_singleton.2 rfl);have HV:=Lib.hid hz.1;have HE0:=Lib.hid he;have hsz:=hz.1.size;have hne:(Q0h t [n] != 0) = false:=by simp [he]
   obtain ⟨E,hE⟩:∃ E,Q0h t [n] = E:=⟨_,rfl⟩;have HEE:=Lib.hid hE;rw [hE] at hne HE0 ⊢;clear he hz hse hE;go_wp2_with fail;refine (Q3i _ _ t HV.out ⟨_,_,_,rfl,HT.out.ext HX1.out⟩).mono ?_;rintro e w2 ⟨fv,gv,rfl,hn,hx2⟩;obtain ⟨A1,cap1,rfl,_,_,_⟩:=hn.fails.opened;obtain ⟨A2,cap2,rfl,_,_,_⟩:=hn.gates.opened;rw [Q2g] at hn ⊢;have HN:=Lib.hid hn;have HX2:=Lib.hid hx2;clear hn hx2 c0 c1 c2;replace hbr:=hbr.ext HX2.out;have hbl:=hbr.lt;go_wp2_with (first | (refine Q0i rfl _ 129 rfl Tryz.Q1s Tryz.Q0r rfl hb9 rfl ?_) | (refine Q1x rfl _ 124 rfl Tryz.Q6u Tryz.Q3z rfl (Q1w hb9) rfl ?_) | (refine Q0c rfl _ _ 129 rfl Tryz.Q0r rfl rfl (Blk.made _ _ _) rfl rfl ?_ ?_; (focus (intro u hu; simp [outA] at hu; rcases hu with rfl | rfl | rfl | rfl | rfl | rfl | rfl | rfl | rfl | rfl | rfl | rfl | rfl | rfl | rfl | rfl <;> rfl)); intro w9 hb9 hl9 ho9) | fail)
   have hx9:Ext w2 w9:=Below.trans (Ext.box w2 _) (hl9 _ (Nat.le_refl _));have HXX9:Hid (Ext w w9):=by exact (HXX.out.trans HX2.out).trans hx9
   have HN9:=Lib.hid (HN.out.ext hx9);replace hbr:=hbr.ext hx9;have HB9:=Lib.hid hb9;clear hl9 ho9 hb9 hx9;have hii:Q0e (w9.alloc (.cells #[.int .i64 n] 3)) (.slice (some ⟨w9.heap.size,0,none⟩) 1 1) [n]:=Q3h (l:=[n]) (by simp)
   have hx10:=Ext.box w9 (.cells #[.int .i64 n] 3);obtain ⟨W9,hW9⟩:∃ X,w9.alloc (.cells #[.int .i64 n] 3) = X:=⟨_,rfl⟩;rw [hW9] at hii hx10 ⊢;clear hW9;have HII:=Lib.hid hii;have HX10:=Lib.hid hx10;have HBR:=Lib.hid (hbr.ext hx10);have hbl10:=(hbr.ext hx10).lt;have hlen:=Q4v t;have hsm:=HV.out.small;have hin:∀ x ∈ [n],0 <= x /\ x < t.Q0b.length:=by intro x hx; rw [List.mem_singleton] at hx; rw [hx,hlen]; exact hn0
   have hs16:=Small.put (l:=[n]) hsm (n:=16) (by omega) (by omega)
   have hs0:=Small.put (l:=[n]) hsm (n:=0) (by omega) (by omega)
   have hb16:=Q4y hs16 t 0 hsz;have hb0:=Q4y hs0 t 0 hsz;have hpb:=X4n hsz;unfold Z7j at hnn;have HIM:Hid (Z7j t n = Q1i t (Q1u t.Q0b [n] 16) 0 - Q1i t (Q1u t.Q0b [n] 0) 0):=by exact (rfl:Z7j t n = _)
   obtain ⟨m,hm⟩:∃ m,Q1i t (Q1u t.Q0b [n] 16) 0 = m:=⟨_,rfl⟩;obtain ⟨m',hm'⟩:∃ m,Q1i t (Q1u t.Q0b [n] 0) 0 = m:=⟨_,rfl⟩;obtain ⟨d,hd⟩:∃ d,Q7g 16 t.size = d:=⟨_,rfl⟩;have HS16:Hid (∀ w',Ext W9 w' -> Calls Tryz.prog 79 #[chV t.Q0b,.slice (some ⟨w9.heap.size,0,none⟩) 1 1,.int .i64 16] w' fun e w''=>e = .returned (chV (Q1u t.Q0b [n] 16)) /\ Ext w' w''):=by
    exact (fun w' hx=>set_any w' t.Q0b [n] _ 16 (HII.out.ext hx) (by rw [hlen]; exact hsz) hin:∀ w',Ext W9 w' -> Calls Tryz.prog 79 #[chV t.Q0b,.slice (some ⟨w9.heap.size,0,none⟩) 1 1,.int .i64 16] w' fun e w''=>e = .returned (chV (Q1u t.Q0b [n] 16)) /\ Ext w' w'')
   have HS0:Hid (∀ w',Ext W9 w' -> Calls Tryz.prog 79 #[chV t.Q0b,.slice (some ⟨w9.heap.size,0,none⟩) 1 1,.int .i64 0] w' fun e w''=>e = .returned (chV (Q1u t.Q0b [n] 0)) /\ Ext w' w''):=by
    exact (fun w' hx=>set_any w' t.Q0b [n] _ 0 (HII.out.ext hx) (by rw [hlen]; exact hsz) hin:∀ w',Ext W9 w' -> Calls Tryz.prog 79 #[chV t.Q0b,.slice (some ⟨w9.heap.size,0,none⟩) 1 1,.int .i64 0] w' fun e w''=>e = .returned (chV (Q1u t.Q0b [n] 0)) /\ Ext w' w'')
   have HW16:Hid (∀ w',Ext w9 w' -> Calls Tryz.prog 92 #[noV t t.Q0b (.slice A1 t.size cap1) (.slice A2 t.gates.length cap2),chV (Q1u t.Q0b [n] 16),.int .i64 0] w' fun e w''=>e = .returned (.int .i64 m) /\ Ext w' w''):=by
    exact (by intro w' hx; rw [<- hm]; exact Q4w w' _ _ t t.Q0b _ 0 HV.out (HN9.out.ext hx) hs16 (by rw [Q7x,hlen]) (by omega):∀ w',Ext w9 w' -> Calls Tryz.prog 92 #[noV t t.Q0b (.slice A1 t.size cap1) (.slice A2 t.gates.length cap2),chV (Q1u t.Q0b [n] 16),.int .i64 0] w' fun e w''=>e = .returned (.int .i64 m) /\ Ext w' w'')
   have HW0:Hid (∀ w',Ext w9 w' -> Calls Tryz.prog 92 #[noV t t.Q0b (.slice A1 t.size cap1) (.slice A2 t.gates.length cap2),chV (Q1u t.Q0b [n] 0),.int .i64 0] w' fun e w''=>e = .returned (.int .i64 m') /\ Ext w' w''):=by
    exact (by intro w' hx; rw [<- hm']; exact Q4w w' _ _ t t.Q0b _ 0 HV.out (HN9.out.ext hx) hs0 (by rw [Q7x,hlen]) (by omega):∀ w',Ext w9 w' -> Calls Tryz.prog 92 #[noV t t.Q0b (.slice A1 t.size cap1) (.slice A2 t.gates.length cap2),chV (Q1u t.Q0b [n] 0),.int .i64 0] w' fun e w''=>e = .returned (.int .i64 m') /\ Ext w' w'')
   have HP:Hid (∀ w',Calls Tryz.prog 93 #[noV t t.Q0b (.slice A1 t.size cap1) (.slice A2 t.gates.length cap2)] w' fun e w''=>e = .returned (.int .i64 d) /\ Ext w' w''):=by
    exact (by intro w'; rw [<- hd]; exact X1i w' t t.Q0b A1 A2 _ _ _ _ hsz:∀ w',Calls Tryz.prog 93 #[noV t t.Q0b (.slice A1 t.size cap1) (.slice A2 t.gates.length cap2)] w' fun e w''=>e = .returned (.int .i64 d) /\ Ext w' w'')
   rw [hm,hm'] at hnn HIM;rw [hd] at HR hpb;rw [HIM.out] at HR;rw [hm] at hb16;rw [hm'] at hb0;have hwd:IntKind.i64.wrap (m - m') = m - m':=wrap_in (by omega) (by omega)
   have hdr:=HX10.out.trans (Ext.refl W9).drew;clear hm hm' hd hs16 hs0 hsm hin hlen hii hbr hx10 HIM;refine Flow.Q3x [.w,.p,.p,.w,.p,.w,.w,.w,.p,.p,.w,.p,.w,.w,.p,.w,.w,.w,.last,.last] [0,1,2,3,4,5,6,7,8,9,10,11,12,13,14,15,16,17,18,19] [[],[],[1],[1,2],[],[1,2,3,4],[0,1,2,3,4,5],[],[],[8],[8,9],[],[0,1,2,3,4,5,6,8,9,10,11],[0,1,2,3,4,5,6,7,8,9,10,11,12],[0,1,2,3,4,5,6,7,8,9,10,11,12,13],[],[0,1,2,3,4,5,6,7,8,9,10,11,12,13,15],[0,1,2,3,4,5,6,7,8,9,10,11,12,13,14,15,16],[0,1,2,3,4,5,6,7,8,9,10,11,12,13,14,15,16,17],[0,1,2,3,4,5,6,7,8,9,10,11,12,13,14,15,16,17,18]] [18,19]
    [.c 0 (noV t t.Q0b (.slice A1 t.size cap1) (.slice A2 t.gates.length cap2)),.c 1 (.pointer (some ⟨w2.heap.size,0,none⟩)),.c 2 (.pointer (some ⟨w2.heap.size,2,none⟩)),.c 3 (chV t.Q0b),.c 4 (.slice (some ⟨w9.heap.size,0,none⟩) 1 1),.c 5 (chV (Q1u t.Q0b [n] 16)),.c 6 (.int .i64 m),.c 7 (noV t t.Q0b (.slice A1 t.size cap1) (.slice A2 t.gates.length cap2)),.c 8 (.pointer (some ⟨w2.heap.size,0,none⟩)),.c 9 (.pointer (some ⟨w2.heap.size,2,none⟩)),.c 10 (chV t.Q0b),.c 11 (.slice (some ⟨w9.heap.size,0,none⟩) 1 1),.c 12 (chV (Q1u t.Q0b [n] 0)),.c 13 (.int .i64 m'),.c 14 (.int .i64 (m - m')),.c 15 (noV t t.Q0b (.slice A1 t.size cap1) (.slice A2 t.gates.length cap2)),.c 16 (.int .i64 d),.c 17 (.agg (Q8u (m - m') d)),.none,.none]
    [fun v w1 w'=>Blk w' (w.heap.size + 1) 52 (Q8u (m - m') d) /\ Below w.heap.size w1 w',fun v w1 w'=>v 19 = .int .i64 0 /\ Blk w' (w.heap.size + 1) 52 (Q8u (m - m') d) /\ Below w.heap.size w1 w'] (by kernel_rfl) rfl (by kernel_rfl) ⟨?g0,?g1,?g2,?g3,?g4,?g5,?g6,?g7,?g8,?g9,?g10,?g11,?g12,?g13,?g14,?g15,?g16,?g17,?g18,?g19,trivial⟩ ?post
   case g0 | g7 | g15=>
    intro v w1 hx;intro bb hbb;intro K hK;have o1:bb.eval (.tmp 7) = .pointer (some ⟨w2.heap.size,0,none⟩):=by rw [hbb]; dsimp only; (try simp (discharger:=decide) only [eval_put_ne]); rfl
    exact Q0n (.tmp 7) _ rfl Tryz.Q1s Tryz.Q0r o1 (HB9.out.ext (hdr.trans hx)) rfl (hK _ _ (Ext.refl _) rfl)
   case g1 | g4 | g8 | g11=>
    intro v w1 hx;intro bb hbb;subst hbb;refine ⟨_,fun w=>?_,rfl⟩;go_simp
   case g2 | g9 | g14=>
    intro v w1 hx;(repeat intro (zq:v _ = _));intro bb hbb;subst hbb;refine ⟨_,fun w=>?_,rfl⟩;go_simp
   case g3=>
    intro v w1 hx;(repeat intro (zq:v _ = _));intro bb hbb;intro K hK;have o1:bb.eval (.tmp 22) = .pointer (some ⟨w2.heap.size,2,none⟩):=by rw [hbb]; dsimp only; (try simp (discharger:=decide) only [eval_put_ne]); rw [Q0a (by simp only [size_put]; exact (by decide:22 < 38))]; assumption
    exact Q2q (.tmp 22) _ rfl Tryz.Q6u Tryz.Q3z o1 ((Q1w HB9.out).ext (hdr.trans hx)) rfl (hK _ _ (Ext.refl _) rfl)
   case g5=>
    intro v w1 hx;(repeat intro (zq:v _ = _));intro bb hbb;subst hbb;intro K hK;go_simp;refine Q0d (HS16.out _ ((Ext.refl W9).drew.trans hx)) ?_;rintro e w2 ⟨rfl,hx2⟩;exact ⟨_,rfl,hK _ _ hx2 rfl⟩
   case g6=>
    intro v w1 hx;(repeat intro (zq:v _ = _));intro bb hbb;subst hbb;intro K hK;go_simp;refine Q0d (HW16.out _ (hdr.trans hx)) ?_;rintro e w2 ⟨rfl,hx2⟩;exact ⟨_,rfl,hK _ _ hx2 rfl⟩
   case g10=>
    intro v w1 hx;(repeat intro (zq:v _ = _));intro bb hbb;intro K hK;have o1:bb.eval (.tmp 29) = .pointer (some ⟨w2.heap.size,2,none⟩):=by rw [hbb]; dsimp only; (try simp (discharger:=decide) only [eval_put_ne]); rw [Q0a (by simp only [size_put]; exact (by decide:29 < 38))]; assumption
    exact Q2q (.tmp 29) _ rfl Tryz.Q6u Tryz.Q3z o1 ((Q1w HB9.out).ext (hdr.trans hx)) rfl (hK _ _ (Ext.refl _) rfl)
   case g12=>
    intro v w1 hx;(repeat intro (zq:v _ = _));intro bb hbb;subst hbb;intro K hK;go_simp;refine Q0d (HS0.out _ ((Ext.refl W9).drew.trans hx)) ?_;rintro e w2 ⟨rfl,hx2⟩;exact ⟨_,rfl,hK _ _ hx2 rfl⟩
   case g13=>
    intro v w1 hx;(repeat intro (zq:v _ = _));intro bb hbb;subst hbb;intro K hK;go_simp;refine Q0d (HW0.out _ (hdr.trans hx)) ?_;rintro e w2 ⟨rfl,hx2⟩;exact ⟨_,rfl,hK _ _ hx2 rfl⟩
   case g16=>
    intro v w1 hx;(repeat intro (zq:v _ = _));intro bb hbb;subst hbb;intro K hK;go_simp;refine Q0d (HP.out _) ?_;rintro e w2 ⟨rfl,hx2⟩;exact ⟨_,rfl,hK _ _ hx2 rfl⟩
   case g17=>
    intro v w1 hx;(repeat intro (zq:v _ = _));intro bb hbb;subst hbb;intro K hK;go_simp;refine Q0d (Q7w _ (m - m') d hnn (by omega) (by omega) (by omega)) ?_
    rintro e w2 ⟨rfl,hx2⟩;exact ⟨_,rfl,hK _ _ hx2 rfl⟩
   case g18=>
    intro v w1 hx;(repeat intro (zq:v _ = _));intro wl hT;obtain rfl:wl = w1:=hT;intro bb hbb;intro K hK;have o1:bb.eval (.tmp 4) = .pointer (some ⟨w.heap.size + 1,0,none⟩):=by rw [hbb]; dsimp only; (try simp (discharger:=decide) only [eval_put_ne]); rfl
    have o2:bb.eval (.tmp 37) = .agg (Q8u (m - m') d):=by rw [hbb]; dsimp only; (try simp (discharger:=decide) only [eval_put_ne]); rw [Q0a (by simp only [size_put]; exact (by decide:37 < 38))]; assumption
    exact Q2z (.tmp 4) (.tmp 37) _ rfl Tryz.Q1q o1 o2 (HBR.out.ext ((Ext.refl W9).drew.trans hx)) rfl rfl (Q5z _ _) (fun vv w' hb hl ho=>hK _ _ ⟨hb,hl _ (by omega)⟩)
   case g19=>
    intro v w1 hx;(repeat intro (zq:v _ = _));intro wl hT;replace hT:(fun v w1 w'=>Blk w' (w.heap.size + 1) 52 (Q8u (m - m') d) /\ Below w.heap.size w1 w') v w1 wl:=hT;intro bb hbb;subst hbb;intro K hK;go_simp;exact hK _ _ ⟨rfl,hT⟩
   case post =>
    intro v w1 hx;(iterate 18 intro (zq:v _ = _));intro w2 hE;replace hE:(fun v w1 w'=>v 19 = .int .i64 0 /\ Blk w' (w.heap.size + 1) 52 (Q8u (m - m') d) /\ Below w.heap.size w1 w') v w1 w2:=hE;simp only [Flow.acts,Act.put];go_simp;obtain ⟨hz9,hb8,hl8⟩:=hE;go_wp2;refine bodyPost_ret (Q0q Tryz.results36 rfl hb8 Tryz.Q5d Tryz.Q1q rfl) rfl ?_;exact ⟨by rw [HR.out,HEE.out,HE0.out]; simp [hz9]; rfl,Below.trans (HXX9.out.trans (hdr.trans hx)) hl8⟩
 . clear hnn
   have HR:Hid (Q5v t n = ⟨0,0⟩):=Lib.hid (by unfold Q5v; rw [if_neg he])
   have hne:(Q0h t [n] != 0) = true:=by simp [he]
   obtain ⟨E,hE⟩:∃ E,Q0h t [n] = E:=⟨_,rfl⟩;have HEE:=Lib.hid hE;rw [hE] at hne ⊢;clear he hE;go_wp2_with (refine Q0c rfl _ _ _ rfl Tryz.Q1q rfl rfl hbr rfl rfl ?_ ?_; (focus (exact Q7i ⟨0,0⟩)); intro w8 hb8 hl8 ho8);refine bodyPost_ret (Q0q Tryz.results36 rfl hb8 Tryz.Q5d Tryz.Q1q rfl) rfl ?_;exact ⟨by rw [HR.out,HEE.out]; rfl,Below.trans HXX.out (hl8 _ (by omega))⟩
end Go.Proofs
namespace Go.Proofs
open Go.RowKit Go.Tw Go.Flow
def Q9u (t:Tree) (n:Int):Int:=if Q0h t [n] = 0 then (if Q1i t t.Q0b 0 = 0 then 6 else 0) else Q0h t [n]
def X8i (t:Tree) (n:Int):Ratio:=if Q0h t [n] = 0 then (if Q1i t t.Q0b 0 = 0 then ⟨0,0⟩ else lowest (Q1i t t.Q0b (2 ^ n.toNat)) (Q1i t t.Q0b 0)) else ⟨0,0⟩
theorem Y7f (w:World) (v:Value) (t:Tree) (n:Int) (ht:IsTree w v t) :
    Calls Tryz.prog 37 #[v,.int .i64 n] w fun e w'=>e = .returned (.tuple #[.agg (encR (X8i t n)),.int .i64 (Q9u t n)]) /\ Ext w w':=by
 obtain ⟨a,b,c,rfl,h3⟩:=ht;obtain ⟨A,capa,rfl,hl1,hcap1,_⟩:=h3.basics.opened;obtain ⟨B,capb,rfl,hl2,hcap2,_⟩:=h3.causes.opened;obtain ⟨G,capg,rfl,hl3,hcap3,_⟩:=h3.gates.opened;have HT0:=Lib.hid h3;clear h3;go_enter Tryz.func37,Tryz.ntmps37;go_wp2_with fail;change Calls _ _ _ ((w.alloc (.cells #[.slice A t.basics.length capa,.slice B t.causes.length capb,.slice G t.gates.length capg] 33)).alloc (.cells #[.int .i64 0,.int .i64 0] 52)) _;obtain ⟨W,hWW,k0,k1,HXW,eW⟩:=Q5l w 33 #[.slice A t.basics.length capa,.slice B t.causes.length capb,.slice G t.gates.length capg] 52 #[.int .i64 0,.int .i64 0];rw [hWW];clear hWW;have HT:=Lib.hid (HT0.out.ext HXW.out);refine (Q6m _ _ t n ⟨_,_,_,rfl,HT.out⟩).mono ?_;rintro e w1 ⟨rfl,hx1⟩;have kt:=k0.ext hx1;have c0:=kt.cell 0;have c1:=kt.cell 1;have c2:=kt.cell 2;simp only [Go.Tw.gA,Go.Tw.gB,Go.Tw.gC] at c0 c1 c2;have HXX:=Lib.hid (HXW.out.trans hx1);have HX1:=Lib.hid hx1;clear kt hx1;have hbr:=k1.ext HX1.out;clear k0 k1
 by_cases he:Q0h t [n] = 0
 . have HR:Hid (X8i t n = if Q1i t t.Q0b 0 = 0 then ⟨0,0⟩ else lowest (Q1i t t.Q0b (2 ^ n.toNat)) (Q1i t t.Q0b 0)):=Lib.hid (by unfold X8i; rw [if_pos he])
   have HRE:Hid (Q9u t n = if Q1i t t.Q0b 0 = 0 then 6 else 0):=Lib.hid (by unfold Q9u; rw [if_pos he])
   have hz:=Q4g he;have hse:=Q2x hz.2;have hn0:=hse.1 n (List.mem_singleton.2 rfl);have HV:=Lib.hid hz.1;have HE0:=Lib.hid he;have hsz:=hz.1.size;have hne:(Q0h t [n] != 0) = false:=by simp [he]
   obtain ⟨E,hE⟩:∃ E,Q0h t [n] = E:=⟨_,rfl⟩;have HEE:=Lib.hid hE;rw [hE] at hne HE0 ⊢;clear he hz hse hE;go_wp2_with fail;refine (Q3i _ _ t HV.out ⟨_,_,_,rfl,HT.out.ext HX1.out⟩).mono ?_;rintro e w2 ⟨fv,gv,rfl,hn,hx2⟩;obtain ⟨A1,cap1,rfl,_,_,_⟩:=hn.fails.opened;obtain ⟨A2,cap2,rfl,_,_,_⟩:=hn.gates.opened;rw [Q2g] at hn ⊢;have HN:=Lib.hid hn;have HX2:=Lib.hid hx2;clear hn hx2 c0 c1 c2;replace hbr:=hbr.ext HX2.out;have hbl:=hbr.lt;go_wp2_with (first | (refine Q0i rfl _ 129 rfl Tryz.Q1s Tryz.Q0r rfl hb9 rfl ?_) | (refine Q1x rfl _ 124 rfl Tryz.Q6u Tryz.Q3z rfl (Q1w hb9) rfl ?_) | (refine Q0c rfl _ _ 129 rfl Tryz.Q0r rfl rfl (Blk.made _ _ _) rfl rfl ?_ ?_; (focus (intro u hu; simp [outA] at hu; rcases hu with rfl | rfl | rfl | rfl | rfl | rfl | rfl | rfl | rfl | rfl | rfl | rfl | rfl | rfl | rfl | rfl <;> rfl)); intro w9 hb9 hl9 ho9) | fail)
   have hx9:Ext w2 w9:=Below.trans (Ext.box w2 _) (hl9 _ (Nat.le_refl _));have HXX9:Hid (Ext w w9):=by exact (HXX.out.trans HX2.out).trans hx9
   have HN9:=Lib.hid (HN.out.ext hx9);replace hbr:=hbr.ext hx9;have HB9:=Lib.hid hb9;have hlen:=Q4v t;have hsm:=HV.out.small;clear hl9 ho9 hb9 hx9;refine (Q4w _ _ _ t t.Q0b t.Q0b 0 HV.out HN9.out hsm hlen (by omega)).mono ?_
   rintro e w3 ⟨rfl,hx3⟩;have hb0:=Q4y hsm t 0 hsz;obtain ⟨k,rfl⟩:∃ k:Nat,n = (k:Int):=⟨n.toNat,by omega⟩
   rw [Int.toNat_natCast] at HR;have hk:k < t.size:=by omega
   have hp2:(2:Nat) ^ k < 2 ^ 62:=Nat.pow_lt_pow_right (by omega) (by omega)
   obtain ⟨Z,hZ⟩:∃ Z,2 ^ k = Z:=⟨_,rfl⟩;have hpw:=Z5a hZ (by rw [hZ] at hp2; exact hp2)
   rw [hZ] at hp2 HR;have hb1:=Q4y hsm t Z hsz;have HWW:Hid (∀ w',Ext w9 w' -> Calls Tryz.prog 92 #[noV t t.Q0b (.slice A1 t.size cap1) (.slice A2 t.gates.length cap2),chV t.Q0b,.int .i64 Z] w' fun e w''=>e = .returned (.int .i64 (Q1i t t.Q0b Z)) /\ Ext w' w''):=by
    exact (fun w' hx=>Q4w w' _ _ t t.Q0b _ Z HV.out (HN9.out.ext hx) hsm hlen hp2:∀ w',Ext w9 w' -> Calls Tryz.prog 92 #[noV t t.Q0b (.slice A1 t.size cap1) (.slice A2 t.gates.length cap2),chV t.Q0b,.int .i64 Z] w' fun e w''=>e = .returned (.int .i64 (Q1i t t.Q0b Z)) /\ Ext w' w'')
   obtain ⟨m,hm⟩:∃ m,Q1i t t.Q0b 0 = m:=⟨_,rfl⟩;obtain ⟨m',hm'⟩:∃ m,Q1i t t.Q0b Z = m:=⟨_,rfl⟩;rw [hm] at HR HRE hb0 ⊢;rw [hm'] at HR HWW hb1;replace hbr:=hbr.ext hx3;have hbl3:=hbr.lt;have HX3:=Lib.hid hx3;have HBR:=Lib.hid hbr;have hkI:(k:Int) < 64:=by omega
   clear hm hm' hsm hlen hZ hx3 hp2
   by_cases hz:m = 0
   . rw [if_pos hz] at HR HRE
     have hmz:(m == 0) = true:=by simp [hz]
     subst hz;go_wp2_with (refine Q0c rfl _ _ _ rfl Tryz.Q1q rfl rfl hbr rfl rfl ?_ ?_; (focus (exact Q7i ⟨0,0⟩)); intro w8 hb8 hl8 ho8);refine bodyPost_ret (Q0q Tryz.results37 rfl hb8 Tryz.Q5d Tryz.Q1q rfl) rfl ?_;exact ⟨by rw [HR.out,HRE.out]; rfl,Below.trans (HXX9.out.trans HX3.out) (hl8 _ (by omega))⟩
   . rw [if_neg hz] at HR HRE
     have hmz:(m == 0) = false:=by simp [hz]
     have hm1:1 <= m:=by omega
     have hdr:=HX3.out.trans (Ext.refl w3).drew;clear hbr;go_wp2;refine Flow.Q3x [.w,.p,.p,.w,.p,.p,.w,.p,.w,.last,.last] [0,1,2,3,4,5,6,7,8,9,10] [[],[],[1],[1,2],[],[4],[0,1,2,3,4,5],[],[0,1,2,3,4,5,6,7],[0,1,2,3,4,5,6,7,8],[0,1,2,3,4,5,6,7,8,9]] [9,10]
      [.c 0 (noV t t.Q0b (.slice A1 t.size cap1) (.slice A2 t.gates.length cap2)),.c 1 (.pointer (some ⟨w2.heap.size,0,none⟩)),.c 2 (.pointer (some ⟨w2.heap.size,2,none⟩)),.c 3 (chV t.Q0b),.c 4 (.int .i64 k),.c 5 (.int .i64 (Z:Nat)),.c 6 (.int .i64 m'),.c 7 (.int .i64 m),.c 8 (.agg (Q8u m' m)),.none,.none]
      [fun v w1 w'=>Blk w' (w.heap.size + 1) 52 (Q8u m' m) /\ Below w.heap.size w1 w',fun v w1 w'=>v 10 = .int .i64 0 /\ Blk w' (w.heap.size + 1) 52 (Q8u m' m) /\ Below w.heap.size w1 w'] (by kernel_rfl) rfl (by kernel_rfl) ⟨?g0,?g1,?g2,?g3,?g4,?g5,?g6,?g7,?g8,?g9,?g10,trivial⟩ ?post
     case g0=>
      intro v w1 hx;intro bb hbb;intro K hK;have o1:bb.eval (.tmp 7) = .pointer (some ⟨w2.heap.size,0,none⟩):=by rw [hbb]; dsimp only; (try simp (discharger:=decide) only [eval_put_ne]); rfl
      exact Q0n (.tmp 7) _ rfl Tryz.Q1s Tryz.Q0r o1 (HB9.out.ext (hdr.trans hx)) rfl (hK _ _ (Ext.refl _) rfl)
     case g1 | g4 | g7=>
      intro v w1 hx;intro bb hbb;subst hbb;refine ⟨_,fun w=>?_,rfl⟩;go_simp
     case g2 | g5=>
      intro v w1 hx;(repeat intro (zq:v _ = _));intro bb hbb;subst hbb;refine ⟨_,fun w=>?_,rfl⟩;go_simp
     case g3=>
      intro v w1 hx;(repeat intro (zq:v _ = _));intro bb hbb;intro K hK;have o1:bb.eval (.tmp 28) = .pointer (some ⟨w2.heap.size,2,none⟩):=by rw [hbb]; dsimp only; (try simp (discharger:=decide) only [eval_put_ne]); rw [Q0a (by simp only [size_put]; exact (by decide:28 < 35))]; assumption
      exact Q2q (.tmp 28) _ rfl Tryz.Q6u Tryz.Q3z o1 ((Q1w HB9.out).ext (hdr.trans hx)) rfl (hK _ _ (Ext.refl _) rfl)
     case g6=>
      intro v w1 hx;(repeat intro (zq:v _ = _));intro bb hbb;subst hbb;intro K hK;go_simp;refine Q0d (HWW.out _ (hdr.trans hx)) ?_;rintro e w2 ⟨rfl,hx2⟩;exact ⟨_,rfl,hK _ _ hx2 rfl⟩
     case g8=>
      intro v w1 hx;(repeat intro (zq:v _ = _));intro bb hbb;subst hbb;intro K hK;go_simp;refine Q0d (Q7w _ m' m hb1.1 (by omega) (by omega) (by omega)) ?_
      rintro e w2 ⟨rfl,hx2⟩;exact ⟨_,rfl,hK _ _ hx2 rfl⟩
     case g9=>
      intro v w1 hx;(repeat intro (zq:v _ = _));intro wl hT;obtain rfl:wl = w1:=hT;intro bb hbb;intro K hK;have o1:bb.eval (.tmp 4) = .pointer (some ⟨w.heap.size + 1,0,none⟩):=by rw [hbb]; dsimp only; (try simp (discharger:=decide) only [eval_put_ne]); rfl
      have o2:bb.eval (.tmp 34) = .agg (Q8u m' m):=by rw [hbb]; dsimp only; (try simp (discharger:=decide) only [eval_put_ne]); rw [Q0a (by simp only [size_put]; exact (by decide:34 < 35))]; assumption
      exact Q2z (.tmp 4) (.tmp 34) _ rfl Tryz.Q1q o1 o2 (HBR.out.ext ((Ext.refl w3).drew.trans hx)) rfl rfl (Q5z _ _) (fun vv w' hb hl ho=>hK _ _ ⟨hb,hl _ (by omega)⟩)
     case g10=>
      intro v w1 hx;(repeat intro (zq:v _ = _));intro wl hT;replace hT:(fun v w1 w'=>Blk w' (w.heap.size + 1) 52 (Q8u m' m) /\ Below w.heap.size w1 w') v w1 wl:=hT;intro bb hbb;subst hbb;intro K hK;go_simp;exact hK _ _ ⟨rfl,hT⟩
     case post =>
      intro v w1 hx;(iterate 9 intro (zq:v _ = _));intro w2 hE;replace hE:(fun v w1 w'=>v 10 = .int .i64 0 /\ Blk w' (w.heap.size + 1) 52 (Q8u m' m) /\ Below w.heap.size w1 w') v w1 w2:=hE;simp only [Flow.acts,Act.put];go_simp;obtain ⟨hz9,hb8,hl8⟩:=hE;go_wp2;refine bodyPost_ret (Q0q Tryz.results37 rfl hb8 Tryz.Q5d Tryz.Q1q rfl) rfl ?_;exact ⟨by rw [HR.out,HRE.out]; simp [hz9]; rfl,Below.trans (HXX9.out.trans (hdr.trans hx)) hl8⟩
 . have HR:Hid (X8i t n = ⟨0,0⟩):=Lib.hid (by unfold X8i; rw [if_neg he])
   have HRE:Hid (Q9u t n = Q0h t [n]):=Lib.hid (by unfold Q9u; rw [if_neg he])
   have hne:(Q0h t [n] != 0) = true:=by simp [he]
   obtain ⟨E,hE⟩:∃ E,Q0h t [n] = E:=⟨_,rfl⟩;have HEE:=Lib.hid hE;rw [hE] at hne ⊢;clear he hE;go_wp2_with (refine Q0c rfl _ _ _ rfl Tryz.Q1q rfl rfl hbr rfl rfl ?_ ?_; (focus (exact Q7i ⟨0,0⟩)); intro w8 hb8 hl8 ho8);refine bodyPost_ret (Q0q Tryz.results37 rfl hb8 Tryz.Q5d Tryz.Q1q rfl) rfl ?_;exact ⟨by rw [HR.out,HRE.out,HEE.out]; rfl,Below.trans HXX.out (hl8 _ (by omega))⟩
end Go.Proofs
namespace Go.Flow
open Go.RowKit Go.Tw
theorem Y2f {ops:Array Oper} {b:Act} {o:Oper} {j:Nat} {want x:Bool} {d:Tmp} (hg:o.guard = some (j,want)) (hd:(ops[j]?).bind (·.dst) = some d) (hsz:d < b.tmps.size) (hv:b.eval (.tmp d) = .bool x):Region.wanted o (yielded ops b.tmps) = (x == want):=by
 have h2:b.tmps[d]? = some (.bool x):=by
  have:b.tmps.getD d undef = .bool x:=hv;rw [Array.getD_eq_getD_getElem?,Array.getElem?_eq_getElem hsz] at this;rw [Array.getElem?_eq_getElem hsz];exact congrArg some this
 unfold Region.wanted;rw [hg];show (yielded ops b.tmps j == some want) = _;have:yielded ops b.tmps j = some x:=by
  unfold yielded;rw [hd];show (match b.tmps[d]? with | some (.bool b)=>some b | _=>none) = _
  rw [h2]
 rw [this];cases x <;> cases want <;> rfl
theorem Q0p {ops:Array Oper} {b:Act} {o:Oper} {j:Nat} {want:Bool} {d:Tmp} {T F:Prop} (hg:o.guard = some (j,want)) (hd:(ops[j]?).bind (·.dst) = some d) (hsz:d < b.tmps.size) (hv:b.eval (.tmp d) = .bool want) (h:T):Guarded ops o b T F:=by
 have:=Y2f hg hd hsz hv;unfold Guarded;rw [hg];exact .inl ⟨by rw [this]; cases want <;> rfl,h⟩
theorem Q2c {ops:Array Oper} {b:Act} {o:Oper} {j:Nat} {want:Bool} {d:Tmp} {T F:Prop} (hg:o.guard = some (j,want)) (hd:(ops[j]?).bind (·.dst) = some d) (hsz:d < b.tmps.size) (hv:b.eval (.tmp d) = .bool (!want)) (h:F):Guarded ops o b T F:=by
 have:=Y2f hg hd hsz hv;unfold Guarded;rw [hg];exact .inr ⟨by rw [this]; cases want <;> rfl,h⟩
end Go.Flow
