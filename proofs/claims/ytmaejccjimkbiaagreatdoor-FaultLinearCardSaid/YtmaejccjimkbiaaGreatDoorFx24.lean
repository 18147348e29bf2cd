/- Contract: Share. Guarded operations of a region: the guard looked up in the frame under a name. -/
import Derived.Test.YtmaejccjimkbiaaGreatDoorFx23
set_option linter.unusedVariables false
set_option linter.unusedSimpArgs false
set_option linter.constructorNameAsVariable false
namespace Go.Proofs
open Go.RowKit Go.Tw Go.Flow
def Q7c (t:Tree) (n:Int):Int:=if Q0i t [n] = 0 then (if Q1g t t.Q0b 0 = 0 then 6 else 0) else Q0i t [n]
def X2t (t:Tree) (n:Int):Ratio:=if Q0i t [n] = 0 then (if Q1g t t.Q0b 0 = 0 then ⟨0,0⟩ else lowest (Q1g t t.Q0b (2 ^ n.toNat)) (Q1g t t.Q0b 0)) else ⟨0,0⟩
set_option maxRecDepth 100000 in
set_option maxHeartbeats 2000000 in
theorem Y6d (w:World) (v:Value) (t:Tree) (n:Int) (ht:IsTree w v t) :
    Calls Tryz.prog 62 #[v,.int .i64 n] w fun e w'=>e = .returned (.tuple #[.agg (encR (X2t t n)),.int .i64 (Q7c t n)]) ∧ Ext w w':=by
 obtain ⟨a,b,c,rfl,h3⟩:=ht;obtain ⟨A,capa,rfl,hl1,hcap1,_⟩:=h3.basics.opened;obtain ⟨B,capb,rfl,hl2,hcap2,_⟩:=h3.causes.opened;obtain ⟨G,capg,rfl,hl3,hcap3,_⟩:=h3.gates.opened;have HT0:=Lib.hid h3;clear h3;go_enter Tryz.func62,Tryz.ntmps62;go_wp2_with fail;change Calls _ _ _ ((w.alloc (.cells #[.slice A t.basics.length capa,.slice B t.causes.length capb,.slice G t.gates.length capg] 37)).alloc (.cells #[.int .i64 0,.int .i64 0] 59)) _;have k0:=Blk.made w 37 #[.slice A t.basics.length capa,.slice B t.causes.length capb,.slice G t.gates.length capg];have x0:=Ext.box w (.cells #[.slice A t.basics.length capa,.slice B t.causes.length capb,.slice G t.gates.length capg] 37);have es0:(w.alloc (.cells #[.slice A t.basics.length capa,.slice B t.causes.length capb,.slice G t.gates.length capg] 37)).heap.size = w.heap.size + 1:=by simp
 obtain ⟨X0,hX0⟩:∃ X,w.alloc (.cells #[.slice A t.basics.length capa,.slice B t.causes.length capb,.slice G t.gates.length capg] 37) = X:=⟨_,rfl⟩;rw [hX0] at k0 x0 es0 ⊢;clear hX0;have k1:=Blk.made X0 59 #[.int .i64 0,.int .i64 0];have x1:=Ext.box X0 (.cells #[.int .i64 0,.int .i64 0] 59);have es1:(X0.alloc (.cells #[.int .i64 0,.int .i64 0] 59)).heap.size = X0.heap.size + 1:=by simp
 obtain ⟨X1,hX1⟩:∃ X,X0.alloc (.cells #[.int .i64 0,.int .i64 0] 59) = X:=⟨_,rfl⟩;rw [hX1] at k1 x1 es1 ⊢;clear hX1;replace k0:=k0.ext x1;have e0:X0.heap.size = w.heap.size + 1:=by omega
 have e1:X1.heap.size = w.heap.size + 1 + 1:=by omega
 rw [e0] at k1;have HXW:Hid (Ext w X1):=by exact (Ext.trans (x0) x1:Ext w X1)
 have eW:X1.heap.size = w.heap.size + 1 + 1:=e1;clear x0 es0 e0 x1 es1 e1;obtain ⟨W,hWW⟩:∃ W,X1 = W:=⟨_,rfl⟩;rw [hWW] at HXW eW ⊢ k0 k1;clear hWW;have HT:=Lib.hid (HT0.out.ext HXW.out);refine (Q5f _ _ t n ⟨_,_,_,rfl,HT.out⟩).mono ?_;rintro e w1 ⟨rfl,hx1⟩;have kt:=k0.ext hx1;have c0:=kt.cell 0;have c1:=kt.cell 1;have c2:=kt.cell 2;simp only [List.getElem?_toArray,List.getElem?_cons_zero,List.getElem?_cons_succ] at c0 c1 c2;have HXX:=Lib.hid (HXW.out.trans hx1);have HX1:=Lib.hid hx1;clear kt hx1;have hbr:=k1.ext HX1.out;clear k0 k1
 by_cases he:Q0i t [n] = 0
 · have HR:Hid (X2t t n = if Q1g t t.Q0b 0 = 0 then ⟨0,0⟩ else lowest (Q1g t t.Q0b (2 ^ n.toNat)) (Q1g t t.Q0b 0)):=by exact (by unfold X2t; rw [if_pos he]:X2t t n = if Q1g t t.Q0b 0 = 0 then ⟨0,0⟩ else lowest (Q1g t t.Q0b (2 ^ n.toNat)) (Q1g t t.Q0b 0))
   have HRE:Hid (Q7c t n = if Q1g t t.Q0b 0 = 0 then 6 else 0):=by exact (by unfold Q7c; rw [if_pos he]:Q7c t n = if Q1g t t.Q0b 0 = 0 then 6 else 0)
   have hz:=Q4d he;have hse:=Q2n hz.2;have hn0:=hse.1 n (List.mem_singleton.2 rfl);have HV:=Lib.hid hz.1;have HE0:=Lib.hid he;have hsz:=hz.1.size;have hne:(Q0i t [n] != 0) = false:=by simp [he]
   obtain ⟨E,hE⟩:∃ E,Q0i t [n] = E:=⟨_,rfl⟩;have HEE:=Lib.hid hE;rw [hE] at hne HE0 ⊢;clear he hz hse hE;go_wp2_with fail;refine (Q3o _ _ t HV.out ⟨_,_,_,rfl,HT.out.ext HX1.out⟩).mono ?_;rintro e w2 ⟨fv,gv,rfl,hn,hx2⟩;obtain ⟨A1,cap1,rfl,_,_,_⟩:=hn.fails.opened;obtain ⟨A2,cap2,rfl,_,_,_⟩:=hn.gates.opened;rw [Q2o] at hn ⊢;have HN:=Lib.hid hn;have HX2:=Lib.hid hx2;clear hn hx2 c0 c1 c2;replace hbr:=hbr.ext HX2.out;have hbl:=hbr.lt;go_wp2_with (first | (refine Q0j rfl _ 121 rfl Tryz.Q1s Tryz.Q0r rfl hb9 rfl ?_) | (refine Q2b rfl _ 116 rfl Tryz.Q6x Tryz.Q4a rfl (Q2a hb9) rfl ?_) | (refine Q0d rfl _ _ 121 rfl Tryz.Q0r rfl rfl (Blk.made _ _ _) rfl rfl ?_ ?_; (focus (intro u hu; simp [outA] at hu; rcases hu with rfl | rfl | rfl | rfl | rfl | rfl | rfl | rfl | rfl | rfl | rfl | rfl | rfl | rfl | rfl | rfl <;> rfl)); intro w9 hb9 hl9 ho9) | fail)
   have hx9:Ext w2 w9:=Below.trans (Ext.box w2 _) (hl9 _ (Nat.le_refl _));have HXX9:Hid (Ext w w9):=by exact (HXX.out.trans HX2.out).trans hx9
   have HN9:=Lib.hid (HN.out.ext hx9);replace hbr:=hbr.ext hx9;have HB9:=Lib.hid hb9;have hlen:=Q4v t;have hsm:=HV.out.small;clear hl9 ho9 hb9 hx9;refine (Q4u _ _ _ t t.Q0b t.Q0b 0 HV.out HN9.out hsm hlen (by omega)).mono ?_
   rintro e w3 ⟨rfl,hx3⟩;have hb0:=Q4z hsm t 0 hsz;obtain ⟨k,rfl⟩:∃ k:Nat,n = (k:Int):=⟨n.toNat,by omega⟩
   rw [Int.toNat_natCast] at HR;have hk:k < t.size:=by omega
   have hp2:(2:Nat) ^ k < 2 ^ 62:=Nat.pow_lt_pow_right (by omega) (by omega)
   obtain ⟨Z,hZ⟩:∃ Z,2 ^ k = Z:=⟨_,rfl⟩;have hpw:=Z1q hZ (by rw [hZ] at hp2; exact hp2)
   rw [hZ] at hp2 HR;have hb1:=Q4z hsm t Z hsz;have HWW:Hid (∀ w',Ext w9 w' → Calls Tryz.prog 100 #[noV t t.Q0b (.slice A1 t.size cap1) (.slice A2 t.gates.length cap2),chV t.Q0b,.int .i64 Z] w' fun e w''=>e = .returned (.int .i64 (Q1g t t.Q0b Z)) ∧ Ext w' w''):=by
    exact (fun w' hx=>Q4u w' _ _ t t.Q0b _ Z HV.out (HN9.out.ext hx) hsm hlen hp2:∀ w',Ext w9 w' → Calls Tryz.prog 100 #[noV t t.Q0b (.slice A1 t.size cap1) (.slice A2 t.gates.length cap2),chV t.Q0b,.int .i64 Z] w' fun e w''=>e = .returned (.int .i64 (Q1g t t.Q0b Z)) ∧ Ext w' w'')
   obtain ⟨m,hm⟩:∃ m,Q1g t t.Q0b 0 = m:=⟨_,rfl⟩;obtain ⟨m',hm'⟩:∃ m,Q1g t t.Q0b Z = m:=⟨_,rfl⟩;rw [hm] at HR HRE hb0 ⊢;rw [hm'] at HR HWW hb1;replace hbr:=hbr.ext hx3;have hbl3:=hbr.lt;have HX3:=Lib.hid hx3;have HBR:=Lib.hid hbr;have hkI:(k:Int) < 64:=by omega
   clear hm hm' hsm hlen hZ hx3 hp2
   by_cases hz:m = 0
   · rw [if_pos hz] at HR HRE
     have hmz:(m == 0) = true:=by simp [hz]
     subst hz;go_wp2_with (refine Q0d rfl _ _ _ rfl Tryz.Q1v rfl rfl hbr rfl rfl ?_ ?_; (focus (exact Q7e ⟨0,0⟩)); intro w8 hb8 hl8 ho8);refine bodyPost_ret (Q0o Tryz.results62 rfl hb8 Tryz.Q5e Tryz.Q1v rfl) rfl ?_;exact ⟨by rw [HR.out,HRE.out]; rfl,Below.trans (HXX9.out.trans HX3.out) (hl8 _ (by omega))⟩
   · rw [if_neg hz] at HR HRE
     have hmz:(m == 0) = false:=by simp [hz]
     have hm1:1 ≤ m:=by omega
     have hdr:=HX3.out.trans (Ext.refl w3).drew;clear hbr;go_wp2;refine Flow.Q3v [.world,.plain,.plain,.world,.plain,.plain,.world,.plain,.world,.last,.last] [0,1,2,3,4,5,6,7,8,9,10] [[],[],[1],[1,2],[],[4],[0,1,2,3,4,5],[],[0,1,2,3,4,5,6,7],[0,1,2,3,4,5,6,7,8],[0,1,2,3,4,5,6,7,8,9]] [9,10]
      [.is 0 (fun v=>noV t t.Q0b (.slice A1 t.size cap1) (.slice A2 t.gates.length cap2)),.is 1 (fun v=>.pointer (some ⟨w2.heap.size,0,none⟩)),.is 2 (fun v=>.pointer (some ⟨w2.heap.size,2,none⟩)),.is 3 (fun v=>chV t.Q0b),.is 4 (fun v=>.int .i64 k),.is 5 (fun v=>.int .i64 (Z:Nat)),.is 6 (fun v=>.int .i64 m'),.is 7 (fun v=>.int .i64 m),.is 8 (fun v=>.agg (Q5o m' m)),.none,.none]
      [fun v w1 w'=>Blk w' (w.heap.size + 1) 59 (Q5o m' m) ∧ Below w.heap.size w1 w',fun v w1 w'=>v 10 = .int .i64 0 ∧ Blk w' (w.heap.size + 1) 59 (Q5o m' m) ∧ Below w.heap.size w1 w'] (by kernel_rfl) rfl (by kernel_rfl) ⟨?g0,?g1,?g2,?g3,?g4,?g5,?g6,?g7,?g8,?g9,?g10,trivial⟩ ?post
     case g0 =>
      intro v w1 hx;intro bb hbb;intro K hK;have o1:bb.eval (.tmp 7) = .pointer (some ⟨w2.heap.size,0,none⟩):=by rw [hbb]; dsimp only; (try simp (discharger:=decide) only [eval_put_ne]); rfl
      exact Q0n (.tmp 7) _ rfl Tryz.Q1s Tryz.Q0r o1 (HB9.out.ext (hdr.trans hx)) rfl (hK _ _ (Ext.refl _) rfl)
     case g1 =>
      intro v w1 hx;intro bb hbb;subst hbb;refine ⟨_,fun w=>?_,rfl⟩;go_simp
     case g2 =>
      intro v w1 hx (q1:v 1 = .pointer (some ⟨w2.heap.size,0,none⟩));intro bb hbb;subst hbb;refine ⟨_,fun w=>?_,rfl⟩;go_simp
     case g3 =>
      intro v w1 hx (q1:v 1 = .pointer (some ⟨w2.heap.size,0,none⟩)) (q2:v 2 = .pointer (some ⟨w2.heap.size,2,none⟩));intro bb hbb;intro K hK;have o1:bb.eval (.tmp 28) = .pointer (some ⟨w2.heap.size,2,none⟩):=by rw [hbb]; dsimp only; (try simp (discharger:=decide) only [eval_put_ne]); rw [Q0a (by simp only [size_put]; exact (by decide:28 < 35))]; exact q2
      exact Q3b (.tmp 28) _ rfl Tryz.Q6x Tryz.Q4a o1 ((Q2a HB9.out).ext (hdr.trans hx)) rfl (hK _ _ (Ext.refl _) rfl)
     case g4 =>
      intro v w1 hx;intro bb hbb;subst hbb;refine ⟨_,fun w=>?_,rfl⟩;go_simp
     case g5 =>
      intro v w1 hx (q4:v 4 = .int .i64 k);intro bb hbb;subst hbb;refine ⟨_,fun w=>?_,rfl⟩;go_simp
     case g6 =>
      intro v w1 hx (q0:v 0 = noV t t.Q0b (.slice A1 t.size cap1) (.slice A2 t.gates.length cap2)) (q1:v 1 = .pointer (some ⟨w2.heap.size,0,none⟩)) (q2:v 2 = .pointer (some ⟨w2.heap.size,2,none⟩)) (q3:v 3 = chV t.Q0b) (q4:v 4 = .int .i64 k) (q5:v 5 = .int .i64 (Z:Nat));intro bb hbb;subst hbb;intro K hK;go_simp;refine Q0e (HWW.out _ (hdr.trans hx)) ?_;rintro e w2 ⟨rfl,hx2⟩;exact ⟨_,rfl,hK _ _ hx2 rfl⟩
     case g7 =>
      intro v w1 hx;intro bb hbb;subst hbb;refine ⟨_,fun w=>?_,rfl⟩;go_simp
     case g8 =>
      intro v w1 hx (q0:v 0 = noV t t.Q0b (.slice A1 t.size cap1) (.slice A2 t.gates.length cap2)) (q1:v 1 = .pointer (some ⟨w2.heap.size,0,none⟩)) (q2:v 2 = .pointer (some ⟨w2.heap.size,2,none⟩)) (q3:v 3 = chV t.Q0b) (q4:v 4 = .int .i64 k) (q5:v 5 = .int .i64 (Z:Nat)) (q6:v 6 = .int .i64 m') (q7:v 7 = .int .i64 m);intro bb hbb;subst hbb;intro K hK;go_simp;refine Q0e (Q7z _ m' m hb1.1 (by omega) (by omega) (by omega)) ?_
      rintro e w2 ⟨rfl,hx2⟩;exact ⟨_,rfl,hK _ _ hx2 rfl⟩
     case g9 =>
      intro v w1 hx (q0:v 0 = noV t t.Q0b (.slice A1 t.size cap1) (.slice A2 t.gates.length cap2)) (q1:v 1 = .pointer (some ⟨w2.heap.size,0,none⟩)) (q2:v 2 = .pointer (some ⟨w2.heap.size,2,none⟩)) (q3:v 3 = chV t.Q0b) (q4:v 4 = .int .i64 k) (q5:v 5 = .int .i64 (Z:Nat)) (q6:v 6 = .int .i64 m') (q7:v 7 = .int .i64 m) (q8:v 8 = .agg (Q5o m' m));intro wl hT;obtain rfl:wl = w1:=hT;intro bb hbb;intro K hK;have o1:bb.eval (.tmp 4) = .pointer (some ⟨w.heap.size + 1,0,none⟩):=by rw [hbb]; dsimp only; (try simp (discharger:=decide) only [eval_put_ne]); rfl
      have o2:bb.eval (.tmp 34) = .agg (Q5o m' m):=by rw [hbb]; dsimp only; (try simp (discharger:=decide) only [eval_put_ne]); rw [Q0a (by simp only [size_put]; exact (by decide:34 < 35))]; exact q8
      exact Q2p (.tmp 4) (.tmp 34) _ rfl Tryz.Q1v o1 o2 (HBR.out.ext ((Ext.refl w3).drew.trans hx)) rfl rfl (Q5t _ _) (fun vv w' hb hl ho=>hK _ _ ⟨hb,hl _ (by omega)⟩)
     case g10 =>
      intro v w1 hx (q0:v 0 = noV t t.Q0b (.slice A1 t.size cap1) (.slice A2 t.gates.length cap2)) (q1:v 1 = .pointer (some ⟨w2.heap.size,0,none⟩)) (q2:v 2 = .pointer (some ⟨w2.heap.size,2,none⟩)) (q3:v 3 = chV t.Q0b) (q4:v 4 = .int .i64 k) (q5:v 5 = .int .i64 (Z:Nat)) (q6:v 6 = .int .i64 m') (q7:v 7 = .int .i64 m) (q8:v 8 = .agg (Q5o m' m));intro wl hT;replace hT:(fun v w1 w'=>Blk w' (w.heap.size + 1) 59 (Q5o m' m) ∧ Below w.heap.size w1 w') v w1 wl:=hT;intro bb hbb;subst hbb;intro K hK;go_simp;exact hK _ _ ⟨rfl,hT⟩
     case post =>
      intro v w1 hx (q0:v 0 = noV t t.Q0b (.slice A1 t.size cap1) (.slice A2 t.gates.length cap2)) (q1:v 1 = .pointer (some ⟨w2.heap.size,0,none⟩)) (q2:v 2 = .pointer (some ⟨w2.heap.size,2,none⟩)) (q3:v 3 = chV t.Q0b) (q4:v 4 = .int .i64 k) (q5:v 5 = .int .i64 (Z:Nat)) (q6:v 6 = .int .i64 m') (q7:v 7 = .int .i64 m) (q8:v 8 = .agg (Q5o m' m));intro w2 hE;replace hE:(fun v w1 w'=>v 10 = .int .i64 0 ∧ Blk w' (w.heap.size + 1) 59 (Q5o m' m) ∧ Below w.heap.size w1 w') v w1 w2:=hE;simp only [Flow.acts,Act.put];go_simp;obtain ⟨hz9,hb8,hl8⟩:=hE;go_wp2;refine bodyPost_ret (Q0o Tryz.results62 rfl hb8 Tryz.Q5e Tryz.Q1v rfl) rfl ?_;exact ⟨by rw [HR.out,HRE.out]; simp [hz9]; rfl,Below.trans (HXX9.out.trans (hdr.trans hx)) hl8⟩
 · have HR:Hid (X2t t n = ⟨0,0⟩):=by exact (by unfold X2t; rw [if_neg he]:X2t t n = ⟨0,0⟩)
   have HRE:Hid (Q7c t n = Q0i t [n]):=by exact (by unfold Q7c; rw [if_neg he]:Q7c t n = Q0i t [n])
   have hne:(Q0i t [n] != 0) = true:=by simp [he]
   obtain ⟨E,hE⟩:∃ E,Q0i t [n] = E:=⟨_,rfl⟩;have HEE:=Lib.hid hE;rw [hE] at hne ⊢;clear he hE;go_wp2_with (refine Q0d rfl _ _ _ rfl Tryz.Q1v rfl rfl hbr rfl rfl ?_ ?_; (focus (exact Q7e ⟨0,0⟩)); intro w8 hb8 hl8 ho8);refine bodyPost_ret (Q0o Tryz.results62 rfl hb8 Tryz.Q5e Tryz.Q1v rfl) rfl ?_;exact ⟨by rw [HR.out,HRE.out,HEE.out]; rfl,Below.trans HXX.out (hl8 _ (by omega))⟩
end Go.Proofs
namespace Go.Flow
open Go.RowKit Go.Tw
theorem X8v {ops:Array Oper} {b:Act} {o:Oper} {j:Nat} {want x:Bool} {d:Tmp} (hg:o.guard = some (j,want)) (hd:(ops[j]?).bind (·.dst) = some d) (hsz:d < b.tmps.size) (hv:b.eval (.tmp d) = .bool x):Region.wanted o (yielded ops b.tmps) = (x == want):=by
 have h2:b.tmps[d]? = some (.bool x):=by
  have:b.tmps.getD d undef = .bool x:=hv;rw [Array.getD_eq_getD_getElem?,Array.getElem?_eq_getElem hsz] at this;rw [Array.getElem?_eq_getElem hsz];exact congrArg some this
 unfold Region.wanted;rw [hg];show (yielded ops b.tmps j == some want) = _;have:yielded ops b.tmps j = some x:=by
  unfold yielded;rw [hd];show (match b.tmps[d]? with | some (.bool b)=>some b | _=>none) = _
  rw [h2]
 rw [this];cases x <;> cases want <;> rfl
theorem Q0g {ops:Array Oper} {b:Act} {o:Oper} {j:Nat} {want:Bool} {d:Tmp} {T F:Prop} (hg:o.guard = some (j,want)) (hd:(ops[j]?).bind (·.dst) = some d) (hsz:d < b.tmps.size) (hv:b.eval (.tmp d) = .bool want) (h:T):Guarded ops o b T F:=by
 have:=X8v hg hd hsz hv;unfold Guarded;rw [hg];exact .inl ⟨by rw [this]; cases want <;> rfl,h⟩
theorem Q2d {ops:Array Oper} {b:Act} {o:Oper} {j:Nat} {want:Bool} {d:Tmp} {T F:Prop} (hg:o.guard = some (j,want)) (hd:(ops[j]?).bind (·.dst) = some d) (hsz:d < b.tmps.size) (hv:b.eval (.tmp d) = .bool (!want)) (h:F):Guarded ops o b T F:=by
 have:=X8v hg hd hsz hv;unfold Guarded;rw [hg];exact .inr ⟨by rw [this]; cases want <;> rfl,h⟩
end Go.Flow
