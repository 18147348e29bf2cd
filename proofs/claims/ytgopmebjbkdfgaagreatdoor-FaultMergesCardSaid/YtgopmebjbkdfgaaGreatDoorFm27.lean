/- Contract: Dual. Contracts: mapped(numbers, strconv.Itoa); line. -/
import Derived.Test.YtgopmebjbkdfgaaGreatDoorFm26
set_option maxRecDepth 1000000
set_option maxHeartbeats 64000000
set_option linter.unusedVariables false
set_option linter.unusedSimpArgs false
set_option linter.constructorNameAsVariable false
namespace Go.Proofs
open Go.RowKit Go.Tw Go.Flow
theorem Tryz.Z9c (w:World):(sizeOf 3).run Tryz.prog w = .ok 1 w:=by kernel_rfl
theorem Tryz.Z9b (w:World):(sizeOf 9).run Tryz.prog w = .ok 1 w:=by kernel_rfl
theorem Y5m (f f':Nat -> ByteArray × Int) {n i r:Nat} {x:Value} (hi:i < n) (hr:r < 2) (h1:enc2 (f' i) = (enc2 (f i)).set r x) (h2:∀ j,j ≠ i -> f' j = f j):(Q1f enc2 n f).setIfInBounds (i * 2 + r) x = Q1f enc2 n f':=by
 apply Array.ext_getElem?
 intro j;have hs:=Q1b Q3q n f;have hs':=Q1b Q3q n f';rw [Array.getElem?_setIfInBounds]
 by_cases hj:j < n * 2
 . have e:j = j / 2 * 2 + j % 2:=by omega
   by_cases hji:i * 2 + r = j
   . rw [if_pos hji,if_pos (by omega)]
     conv=>rhs; rw [e]
     rw [Q2r Q3q _ (by omega) (by omega),show j / 2 = i by omega,show j % 2 = r by omega,h1,List.getElem?_set_self (by rw [Q3q]; exact hr)]
   . rw [if_neg hji]
     conv=>lhs; rw [e]
     conv=>rhs; rw [e]
     rw [Q2r Q3q _ (by omega) (by omega),Q2r Q3q _ (by omega) (by omega)]
     by_cases hq:j / 2 = i
     . rw [hq,h1,List.getElem?_set_ne (by omega)]
     . rw [h2 _ hq]
 . rw [if_neg (by omega),Array.getElem?_eq_none (by omega),Array.getElem?_eq_none (by omega)]
theorem X1y (f f':Nat -> ByteArray × Int × Value) {n i r:Nat} {x:Value} (hi:i < n) (hr:r < 3) (h1:enc3 (f' i) = (enc3 (f i)).set r x) (h2:∀ j,j ≠ i -> f' j = f j):(Q1f enc3 n f).setIfInBounds (i * 3 + r) x = Q1f enc3 n f':=by
 apply Array.ext_getElem?
 intro j;have hs:=Q1b Q0o n f;have hs':=Q1b Q0o n f';rw [Array.getElem?_setIfInBounds]
 by_cases hj:j < n * 3
 . have e:j = j / 3 * 3 + j % 3:=by omega
   by_cases hji:i * 3 + r = j
   . rw [if_pos hji,if_pos (by omega)]
     conv=>rhs; rw [e]
     rw [Q2r Q0o _ (by omega) (by omega),show j / 3 = i by omega,show j % 3 = r by omega,h1,List.getElem?_set_self (by rw [Q0o]; exact hr)]
   . rw [if_neg hji]
     conv=>lhs; rw [e]
     conv=>rhs; rw [e]
     rw [Q2r Q0o _ (by omega) (by omega),Q2r Q0o _ (by omega) (by omega)]
     by_cases hq:j / 3 = i
     . rw [hq,h1,List.getElem?_set_ne (by omega)]
     . rw [h2 _ hq]
 . rw [if_neg (by omega),Array.getElem?_eq_none (by omega),Array.getElem?_eq_none (by omega)]
theorem Valid.need {t:Tree} (h:Valid t) {k:Nat} (hk:k < t.gates.length):(Q0i t.gates k).length <= 12 /\ 0 <= Q3e t.gates k /\ Q3e t.gates k <= 12:=by
 have:=h.gate k hk;unfold Tree.Q2e Q9i at this;rw [Q1c] at this;have h1:=this (if 12 < (Q0i t.gates k).length then 5 else 0) (by simp)
 have h2:=this (X1r (Q2f t.gates k) (Q3e t.gates k) (Q0i t.gates k).length) (by simp)
 have h3:(Q0i t.gates k).length <= 12:=by
  split at h1
  . cases h1
  . omega
 refine ⟨h3,?_⟩;unfold X1r Q0q at h2
 split at h2
 . split at h2
   . cases h2
   . omega
 . split at h2
   . cases h2
   . omega
def Y7d (b:Basic):Basic:=⟨b.name,16 - b.chance⟩
def X4v (g:Gate):Gate:=if g.kind = Q8x then ⟨sOr,g.need,g.inputs⟩ else if g.kind = sOr then ⟨Q8x,g.need,g.inputs⟩ else ⟨g.kind,(g.inputs.length:Int) + 1 - g.need,g.inputs⟩
def X3w (t:Tree):Int:=Q0g [t.err,Q0m (decide (0 < t.causes.length)) 19]
def Y8c (t:Tree):Tree:=if X3w t = 0 then ⟨t.basics.map Y7d,t.causes,t.gates.map X4v⟩ else ⟨[],[],[]⟩
def bD (t:Tree) (k i:Nat):ByteArray × Int:=if i < k then (bName t.basics i,16 - Q1j t.basics i) else bF t i
def gDk (t:Tree) (i:Nat):ByteArray × Int:=let g:=X4v (t.gates.getD i default); (g.kind,g.need)
def gD (t:Tree) (mg:Nat -> Value) (k i:Nat):ByteArray × Int × Value:=if i < k then ((gDk t i).1,(gDk t i).2,mg i) else gF t mg i
theorem Z7l (t:Tree) (k:Nat):enc2 (bD t (k + 1) k) = (enc2 (bD t k k)).set 1 (.int .i64 (16 - Q1j t.basics k)):=by
 unfold bD;rw [if_pos (by omega),if_neg (by omega)]; rfl
theorem Z3y (t:Tree) (k j:Nat) (h:j ≠ k):bD t (k + 1) j = bD t k j:=by
 unfold bD
 by_cases hj:j < k
 . rw [if_pos hj,if_pos (by omega)]
 . rw [if_neg hj,if_neg (by omega)]
theorem Y0n (t:Tree) (mg:Nat -> Value) (k j:Nat) (h:j ≠ k):gD t mg (k + 1) j = gD t mg k j:=by
 unfold gD
 by_cases hj:j < k
 . rw [if_pos hj,if_pos (by omega)]
 . rw [if_neg hj,if_neg (by omega)]
theorem Z0a {t:Tree} {k:Nat} (h:Q2f t.gates k = Q8x):gDk t k = (sOr,Q3e t.gates k):=by
 unfold Q2f at h;unfold gDk X4v Q3e;simp only [h,if_true]
theorem Z9j:¬ sOr = Q8x:=by decide
theorem Z6i {t:Tree} {k:Nat} (h:Q2f t.gates k = sOr):gDk t k = (Q8x,Q3e t.gates k):=by
 unfold Q2f at h;unfold gDk X4v Q3e;simp only [h,if_neg Z9j,if_true]
theorem Y5t {t:Tree} {k:Nat} (h:¬ Q2f t.gates k = Q8x) (h2:¬ Q2f t.gates k = sOr):gDk t k = (Q2f t.gates k,((Q0i t.gates k).length:Int) + 1 - Q3e t.gates k):=by
 unfold Q2f at *;unfold gDk X4v Q3e Q0i;simp only [if_neg h,if_neg h2]
theorem Y4q (t:Tree) (mg:Nat -> Value) (k r:Nat) (x:Value) (h:enc3 ((gDk t k).1,(gDk t k).2,mg k) = (enc3 (Q2f t.gates k,Q3e t.gates k,mg k)).set r x):enc3 (gD t mg (k + 1) k) = (enc3 (gD t mg k k)).set r x:=by
 unfold gD;rw [if_pos (by omega),if_neg (by omega)]; exact h
theorem Y7i {t:Tree} {i:Nat} (hi:i < t.basics.length):bName (t.basics.map Y7d) i = bName t.basics i /\ Q1j (t.basics.map Y7d) i = 16 - Q1j t.basics i:=by
 unfold bName Q1j;rw [getD_at (by rw [List.length_map]; exact hi),getD_at hi,List.getElem_map]
 exact ⟨rfl,rfl⟩
theorem Z1a {t:Tree} {i:Nat} (hi:i < t.gates.length):Q2f (t.gates.map X4v) i = (gDk t i).1 /\ Q3e (t.gates.map X4v) i = (gDk t i).2 /\ Q0i (t.gates.map X4v) i = Q0i t.gates i:=by
 unfold Q2f Q3e Q0i gDk;rw [getD_at (by rw [List.length_map]; exact hi),getD_at hi,List.getElem_map]
 refine ⟨rfl,rfl,?_⟩;unfold X4v
 split
 . rfl
 . split <;> rfl
theorem Z0w {t:Tree} {i:Nat} (h:Short (Q2f t.gates i)):Short (gDk t i).1:=by
 by_cases h1:Q2f t.gates i = Q8x
 . rw [Z0a h1]; show sOr.size <= _; decide
 . by_cases h2:Q2f t.gates i = sOr
   . rw [Z6i h2]; show Q8x.size <= _; decide
   . rw [Y5t h1 h2]; exact h
theorem Y9v (w:World) (v:Value) (t:Tree) (ht:IsTree w v t) :
    Calls Tryz.prog 46 #[v] w fun e w'=>∃ u,e = .returned (.tuple #[u,.int .i64 (X3w t)]) /\ IsTree w' u (Y8c t) /\ Ext w w':=by
 obtain ⟨E0,hE0⟩:∃ E,t.err = E:=⟨_,rfl⟩;obtain ⟨q,hq⟩:∃ q,decide (0 < t.causes.length) = q:=⟨_,rfl⟩;obtain ⟨E,hE⟩:∃ E,Q0g [E0,Q0m q 19] = E:=⟨_,rfl⟩;have HFIN:Hid (X3w t = E):=Lib.hid (by unfold X3w; rw [hE0,hq]; exact hE)
 have HE:Hid (∀ (w':World) (u:Value),Q0f w' u [E0,Q0m q 19] -> Calls Tryz.prog 48 #[u] w' fun e w''=>e = .returned (.int .i64 E) /\ w' = w''):=by
  exact (by intro w' u h; rw [<- hE]; exact first_any _ _ _ h:∀ (w':World) (u:Value),Q0f w' u [E0,Q0m q 19] -> Calls Tryz.prog 48 #[u] w' fun e w''=>e = .returned (.int .i64 E) /\ w' = w'')
 have HC:Hid (∀ (w':World) (v:Value),IsTree w' v t -> Calls Tryz.prog 49 #[v] w' fun e w''=>e = .returned (.int .i64 E0) /\ Ext w' w''):=by
  exact (by intro w' v h; rw [<- hE0]; exact Q1w _ _ _ h:∀ (w':World) (v:Value),IsTree w' v t -> Calls Tryz.prog 49 #[v] w' fun e w''=>e = .returned (.int .i64 E0) /\ Ext w' w'')
 have HW:Hid (∀ w',Calls Tryz.prog 50 #[.bool (decide (0 < t.causes.length)),.int .i64 19] w' fun e w''=>e = .returned (.int .i64 (Q0m q 19)) /\ w' = w''):=by
  exact (by intro w'; rw [hq]; exact Q4w _ _ _:∀ w',Calls Tryz.prog 50 #[.bool (decide (0 < t.causes.length)),.int .i64 19] w' fun e w''=>e = .returned (.int .i64 (Q0m q 19)) /\ w' = w'')
 have HEQ:=Lib.hid hE0;have HEE:=Lib.hid hE;have HQ:=Lib.hid hq;clear hE0 hE hq;obtain ⟨a,b,c,rfl,h3⟩:=ht;obtain ⟨A,capa,rfl,hl1,hcap1,_⟩:=h3.basics.opened;obtain ⟨B,capb,rfl,hl2,hcap2,_⟩:=h3.causes.opened;obtain ⟨G,capg,rfl,hl3,hcap3,_⟩:=h3.gates.opened;have HT0:=Lib.hid h3;clear h3;go_enter Tryz.func46,Tryz.ntmps46;go_wp2_with fail;change Code.wp _ _ _ _ ((w.alloc (.cells #[.slice A t.basics.length capa,.slice B t.causes.length capb,.slice G t.gates.length capg] 33)).alloc (.cells #[.slice none 0 0,.slice none 0 0,.slice none 0 0] 33));obtain ⟨W,hWW,k0,k1,HXW,eW⟩:=Q5n w 33 #[.slice A t.basics.length capa,.slice B t.causes.length capb,.slice G t.gates.length capg] 33 #[.slice none 0 0,.slice none 0 0,.slice none 0 0];rw [hWW];clear hWW;have HT:=Lib.hid (HT0.out.ext HXW.out);have K0:=Lib.hid k0;have hdr:=(Ext.refl W).drew;refine Flow.Q2m [.w,.w,.p,.w,.p,.p,.w,.w,.w,.p] [0,1,2,3,4,5,6,7,8,9] [[],[0],[],[2],[3],[4],[1,5],[1,6],[6,7],[0,1,2,3,4,5,6,7,8]]
  [.c 0 (.agg #[.slice A t.basics.length capa,.slice B t.causes.length capb,.slice G t.gates.length capg]),.c 1 (.int .i64 E0),.c 2 (.pointer (some ⟨w.heap.size,1,none⟩)),.c 3 (.slice B t.causes.length capb),.c 4 (.int .i64 ((t.causes.length:Nat):Int)),.c 5 (.bool (decide (0 < t.causes.length))),.c 6 (.int .i64 (Q0m q 19)),⟨fun v wz=>Q0f wz (v 7) [E0,Q0m q 19],fun _ _ _ hx h=>h.ext hx⟩,.c 8 (.int .i64 E),.c 9 (.int .i64 E)]
  (by kernel_rfl) rfl (by kernel_rfl) ⟨?g0,?g1,?g2,?g3,?g4,?g5,?g6,?g7,?g8,?g9,trivial⟩ ?post
 case g0=>
  intro v w1 hx;intro bb hbb;intro K hK;have o1:bb.eval (.tmp 1) = .pointer (some ⟨w.heap.size,0,none⟩):=by rw [hbb]; dsimp only; (try simp (discharger:=decide) only [eval_put_ne]); rfl
  exact Q0h (.tmp 1) _ rfl Tryz.Q2h Tryz.Q0u o1 (K0.out.ext (hdr.trans hx)) rfl (hK _ _ (Ext.refl _) rfl)
 case g1=>
  intro v w1 hx;(repeat intro (zq:v _ = _));intro bb hbb;subst hbb;intro K hK;go_simp;refine Q0c (HC.out w1 _ ⟨_,_,_,rfl,HT.out.ext (hdr.trans hx)⟩) ?_;rintro e w2 ⟨rfl,hx2⟩;exact ⟨_,rfl,hK _ _ hx2 rfl⟩
 case g2=>
  intro v w1 hx;intro bb hbb;subst hbb;refine ⟨_,fun w=>?_,rfl⟩;go_simp
 case g3=>
  intro v w1 hx;(repeat intro (zq:v _ = _));intro bb hbb;subst hbb;have n0:w1.cell? ⟨w.heap.size,1,none⟩ = some (.slice B t.causes.length capb):=(K0.out.ext (hdr.trans hx)).cell 1;intro K hK;go_simp;exact hK _ _ (Ext.refl _) rfl
 case g4 | g5=>
  intro v w1 hx;(repeat intro (zq:v _ = _));intro bb hbb;subst hbb;refine ⟨_,fun w=>?_,rfl⟩;go_simp
 case g6=>
  intro v w1 hx;(repeat intro (zq:v _ = _));intro bb hbb;subst hbb;intro K hK;go_simp;refine Q0c (HW.out _) ?_;rintro e w2 ⟨rfl,rfl⟩;exact ⟨_,rfl,hK _ _ (Ext.refl _) rfl⟩
 case g7=>
  intro v w1 hx;(repeat intro (zq:v _ = _));intro bb hbb;subst hbb;intro K hK;go_simp;exact hK _ _ (Ext.box _ _) (Q3b (l:=[E0,Q0m q 19]) (by simp))
 case g8=>
  intro v w1 hx (q6:v 6 = _) (q7:Q0f w1 (v 7) [E0,Q0m q 19]);intro bb hbb;subst hbb;intro K hK;go_simp;refine Q0c (HE.out _ _ q7) ?_;rintro e w2 ⟨rfl,rfl⟩;exact ⟨_,rfl,hK _ _ (Ext.refl _) rfl⟩
 case g9=>
  intro v w1 hx (q0:v 0 = _) (q1:v 1 = _) (q2:v 2 = _) (q3:v 3 = _) (q4:v 4 = _) (q5:v 5 = _) (q6:v 6 = _) _ (q8:v 8 = _);intro bb hbb;subst hbb;refine ⟨_,fun w=>?_,rfl⟩;go_simp
 case post =>
  intro v w1 hx (q0:v 0 = _) (q1:v 1 = _) (q2:v 2 = _) (q3:v 3 = _) (q4:v 4 = _) (q5:v 5 = _) (q6:v 6 = _) (q7:Q0f w1 (v 7) [E0,Q0m q 19]) (q8:v 8 = _) (q9:v 9 = _);simp only [Flow.All,Flow.acts,Act.put];go_simp;obtain ⟨wq,hwq⟩:∃ x,x = w1:=⟨_,rfl⟩;subst hwq;have hx1:=hdr.trans hx;have HX1:=Lib.hid (HXW.out.trans hx1);have HK0:=Lib.hid (K0.out.ext hx1);have HT1:=Lib.hid (HT.out.ext hx1);have hbr:=k1.ext hx1;clear hx1 hx hdr k0 k1 K0 q0 q1 q2 q3 q4 q5 q6 q7 q8 HC HW HE HQ
  by_cases hE0:E = 0
  . have hne:(E != 0) = false:=by simp [hE0]
    have HDT:Hid (Y8c t = ⟨t.basics.map Y7d,t.causes,t.gates.map X4v⟩):=Lib.hid (by unfold Y8c; rw [if_pos (by rw [HFIN.out,hE0])])
    have hz:E0 = 0:=by
     have h0:=HEE.out.trans hE0;rw [Q1c] at h0;exact h0 _ (by simp)
    have HV:=Lib.hid (Valid.of (HEQ.out.trans hz));have HE0:Hid (X3w t = 0):=Lib.hid (HFIN.out.trans hE0);have HFIT:=Lib.hid HV.out.fit;clear hE0 hz;go_wp2_with (refine Q0j rfl _ 33 rfl Tryz.Q2h Tryz.Q0u rfl HK0.out rfl ?_);refine (X0y _ _ t HFIT.out.nb HFIT.out.nc HFIT.out.ng ⟨_,_,_,rfl,HT1.out⟩).mono ?_;rintro e w4 ⟨gb,gc,gg,mc,mg,rfl,hown,hx4⟩;have HBR:=Lib.hid (hbr.ext hx4);have HX4:=Lib.hid (HX1.out.trans hx4);have HX14:=Lib.hid hx4;have HOWN:=Lib.hid hown;clear hown hx4 hbr;go_wp2_with (refine Q0d rfl _ _ 33 rfl Tryz.Q0u rfl rfl (Blk.made _ _ _) rfl rfl ?_ ?_; (focus (intro u hu; simp only [List.mem_cons,List.not_mem_nil,or_false] at hu; rcases hu with rfl | rfl | rfl <;> rfl)); intro w5 hb5 hl5 ho5; refine halted ?_)
    have hx5:Ext w4 w5:=Below.trans (Ext.box w4 _) (hl5 _ (Nat.le_refl _));have HX5:=Lib.hid (HX14.out.trans hx5);have HXX5:=Lib.hid (HX4.out.trans hx5);have HOWN5:=Lib.hid (HOWN.out.ext hx5);have HK5:=Lib.hid (HK0.out.ext HX5.out);have HB5:=Lib.hid hb5;have HBR5:=Lib.hid (HBR.out.ext hx5);have hob:=HOWN.out.b;have hog:=HOWN.out.g;have hoc:=HOWN.out.c;have hwl:=HX1.out.size;have hgbl:=HOWN.out.bas.lt;have hl5s:=hb5.lt;have d0:=hb5.cell 0;simp only [Go.Tw.gA,Go.Tw.gB] at d0;have hnb:=HFIT.out.nb;clear hb5 hl5 ho5 hx5;unfold Q3g;go_wp2;have hbc:Q1f enc2 t.basics.length (bF t) = Q1f enc2 t.basics.length (bD t 0):=Q4b fun i _=>by simp [bD]
    have HOB:Hid (Blk w5 gb 103 (Q1f enc2 t.basics.length (bD t 0))):=Lib.hid (by rw [<- hbc]; exact HOWN5.out.bas)
    clear hbc d0
    go_loopw [27] (fun i wr=>∃ (k:Nat),k <= t.basics.length /\ i = .int .i64 k /\ Blk wr gb 103 (Q1f enc2 t.basics.length (bD t k)) /\ Ext wq wr /\ w5.heap.size <= wr.heap.size /\ ∀ b,b < w5.heap.size -> b ≠ gb -> wr.heap[b]? = w5.heap[b]?) (fun i _=>t.basics.length - (intOf i).toNat)
    case atStart=>exact ⟨0,Nat.zero_le _,rfl,HOB.out,HX5.out,Nat.le_refl _,fun _ _ _=>rfl⟩
    case round =>
     obtain ⟨k,hk,rfl,hbb,hbel,hsz,hoth⟩:=hrel
     by_cases hlt:k < t.basics.length
     . obtain ⟨_,_,he0,_,_,hcc⟩:=HT1.out.basics.opened
       cases he0;obtain ⟨b1,off,rfl,hb1,e0,e1,hsh⟩:=hcc k hlt;replace e1:=hbel.cell e1;obtain ⟨ch,hch⟩:∃ x,Q1j t.basics k = x:=⟨_,rfl⟩;have hchb:0 <= ch /\ ch <= 16:=by
        have h:=HV.out.chance (i:=k) (by unfold Tree.size; omega)
        unfold Tree.Q1h at h;rw [if_pos hlt,hch] at h;exact h
       rw [hch] at e1;have HCH:=Lib.hid hch;have HBB:=Lib.hid hbb;have HBEL:=Lib.hid hbel;have HOTH:=Lib.hid hoth;have HB6:=Lib.hid (Q2s HB5.out (Q2a HB5.out HOWN5.out.bas (by decide)) hoth)
       have HK6:=Lib.hid (Q2s HK5.out (Q2a HK5.out HOWN5.out.bas (by decide)) hoth)
       have hkI:(k:Int) < t.basics.length:=by omega
       have hdr:=(Ext.refl wr).drew;have hsub:IntKind.i64.wrap (16 - ch) = 16 - ch:=wrap_in (by omega) (by omega)
       clear hbb hbel hoth hcc hch e0;go_wp2;refine Flow.Q4f [.p,.w,.p,.p,.w,.p,.p,.p,.w,.p,.p,.p,.last] [0,1,2,3,4,5,6,7,8,9,10,11,12] [[],[0],[],[],[3],[],[3,4,5],[3,4,5,6],[3,4,5,6,7],[3,4,5,6,7,8],[0,1,2,3,4,5,6,7,8,9],[0,1,2,3,4,5,6,7,8,9,10],[0,1,2,3,4,5,6,7,8,9,10,11]] [12]
        [.c 0 (.pointer (some ⟨w4.heap.size,0,none⟩)),.c 1 (.slice (some ⟨gb,0,none⟩) t.basics.length t.basics.length),.c 2 (.int .i64 k),.c 3 (.pointer (some ⟨w.heap.size,0,none⟩)),.c 4 (.slice (some ⟨b1,off,none⟩) t.basics.length capa),.c 5 (.int .i64 k),.c 6 (.pointer (some ⟨b1,off + k * 2,none⟩)),.c 7 (.pointer (some ⟨b1,off + k * 2 + 1,none⟩)),.c 8 (.int .i64 ch),.c 9 (.int .i64 (16 - ch)),.c 10 (.pointer (some ⟨gb,k * 2,none⟩)),.c 11 (.pointer (some ⟨gb,k * 2 + 1,none⟩)),.none]
        [fun v w1 w2=>Blk w2 gb 103 ((Q1f enc2 t.basics.length (bD t k)).setIfInBounds (k * 2 + 1) (.int .i64 (16 - ch))) /\ (∀ n,n <= gb -> Below n w1 w2) /\ ∀ k,k ≠ gb -> w2.heap[k]? = w1.heap[k]?] (by kernel_rfl) rfl (by kernel_rfl) ⟨?g0,?g1,?g2,?g3,?g4,?g5,?g6,?g7,?g8,?g9,?g10,?g11,?g12,trivial⟩ ?post
       case g0 | g2 | g3 | g5=>
        intro v w1 hx;intro bb hbb;subst hbb;refine ⟨_,fun w=>?_,rfl⟩;go_simp
       case g1 | g4 | g8=>
        intro v w1 hx;(repeat intro (zq:v _ = _));intro bb hbb;subst hbb;have n0:w1.cell? ⟨w4.heap.size,0,none⟩ = some (.slice (some ⟨gb,0,none⟩) t.basics.length t.basics.length):=(HB6.out.ext (hdr.trans hx)).cell 0;have n1:w1.cell? ⟨w.heap.size,0,none⟩ = some (.slice (some ⟨b1,off,none⟩) t.basics.length capa):=(HK6.out.ext (hdr.trans hx)).cell 0;have n2:w1.cell? ⟨b1,off + k * 2 + 1,none⟩ = some (.int .i64 ch):=(hdr.trans hx).cell e1;intro K hK;go_simp;exact hK _ _ (Ext.refl _) rfl
       case g6 | g7 | g9 | g10 | g11=>
        intro v w1 hx;(repeat intro (zq:v _ = _));intro bb hbb;subst hbb;refine ⟨_,fun w=>?_,rfl⟩;go_simp
       case g12=>
        intro v w1 hx;(repeat intro (zq:v _ = _));intro wl hT;obtain rfl:wl = w1:=hT;intro bb hbb;intro K hK;have o1:bb.eval (.tmp 41) = .pointer (some ⟨gb,k * 2 + 1,none⟩):=by rw [hbb]; dsimp only; (try simp (discharger:=decide) only [eval_put_ne]); rw [Q0a (by simp only [size_put]; exact (by decide:41 < 81))]; assumption
        have o2:bb.eval (.tmp 39) = .int .i64 (16 - ch):=by rw [hbb]; dsimp only; (try simp (discharger:=decide) only [eval_put_ne]); rw [Q0a (by simp only [size_put]; exact (by decide:39 < 81))]; assumption
        have hbx:=HBB.out.ext (hdr.trans hx);refine Q2u (.tmp 41) (.tmp 39) rfl Tryz.Z9c o1 o2 rfl rfl hbx (by rw [Q1b Q3q]; omega) (fun vv=>hK _ _ ⟨hbx.set _ _,fun n hn=>(Below.refl n _).setCell (p:=⟨gb,k * 2 + 1,none⟩) hn _,fun k' hk'=>Below.heap_setCell _ _ _ _ hk'⟩)
       case post =>
        intro v w1 hx;(iterate 12 intro (zq:v _ = _));intro w2 hE;replace hE:(fun v w1 w2=>Blk w2 gb 103 ((Q1f enc2 t.basics.length (bD t k)).setIfInBounds (k * 2 + 1) (.int .i64 (16 - ch))) /\ (∀ n,n <= gb -> Below n w1 w2) /\ ∀ k,k ≠ gb -> w2.heap[k]? = w1.heap[k]?) v w1 w2:=hE;simp only [Flow.acts,Act.put];go_simp;obtain ⟨hb6,hlow,hot6⟩:=hE;have h1:=Z7l t k;rw [HCH.out] at h1;rw [Y5m (bD t k) (bD t (k + 1)) hlt (by decide) h1 (fun j hj=>Z3y t k j hj)] at hb6
        have hxx:=hdr.trans hx;have HBS:=Lib.hid hb6;have HE6:Hid (Ext wq w2):=Lib.hid (Below.trans (HBEL.out.trans hxx) (hlow wq.heap.size (by omega)))
        have HS6:Hid (w5.heap.size <= w2.heap.size):=Lib.hid (Nat.le_trans hsz (Nat.le_trans hxx.size (hlow 0 (Nat.zero_le _)).size));have HO6:Hid (∀ b,b < w5.heap.size -> b ≠ gb -> w2.heap[b]? = w5.heap[b]?):=Lib.hid (fun b hb hne=>(hot6 b hne).trans ((hxx.block b (Nat.lt_of_lt_of_le hb hsz)).trans (HOTH.out b hb hne)));clear hb6 hlow hot6 hxx hx hdr h1;(repeat clear zq);go_wp2;go_roundw
        case rel=>exact ⟨k + 1,by omega,by go_num,HBS.out,HE6.out,HS6.out,HO6.out⟩
        case measure=>simp [intOf]; omega
     . have e:k = t.basics.length:=by omega
       subst e;obtain ⟨w6,hw6⟩:∃ x,wr = x:=⟨_,rfl⟩;rw [hw6] at hbb hbel hsz hoth ⊢;clear hw6;have HBB6:=Lib.hid hbb;have HBEL6:=Lib.hid hbel;have HBC6:=Lib.hid (Q2s HOWN5.out.cau (Q2a HOWN5.out.cau HOWN5.out.bas (by decide)) hoth)
       have HBG6:=Lib.hid (Q2s HOWN5.out.gat (Q2a HOWN5.out.gat HOWN5.out.bas (by decide)) hoth)
       have HB6:=Lib.hid (Q2s HB5.out (Q2a HB5.out HOWN5.out.bas (by decide)) hoth)
       have HBR6:=Lib.hid (Q2s HBR5.out (Q2a HBR5.out HOWN5.out.bas (by decide)) hoth)
       have HK6:=Lib.hid (Q2s HK5.out (Q2a HK5.out HOWN5.out.bas (by decide)) hoth)
       have HM6:Hid (∀ i,i < t.causes.length -> Q0r w6 0 3 (.int .i64) (mc i) (Q0e t.causes i)):=Lib.hid (fun i hi=>Q6c (HOWN5.out.mem i hi) HOWN5.out.bas (by decide) hoth)
       have HI6:Hid (∀ i,i < t.gates.length -> Q0r w6 0 3 (.int .i64) (mg i) (Q0i t.gates i)):=Lib.hid (fun i hi=>Q6c (HOWN5.out.inp i hi) HOWN5.out.bas (by decide) hoth)
       have HXW6:Hid (Ext w w6):=Lib.hid (HX1.out.trans hbel);have hgg6:=HBG6.out.lt;have hng:=HFIT.out.ng;have c2:=HK6.out.cell 2;simp only [Go.Tw.gA,Go.Tw.gB,Go.Tw.gC] at c2;have hgc:Q1f enc3 t.gates.length (gF t mg) = Q1f enc3 t.gates.length (gD t mg 0):=Q4b fun i _=>by simp [gD]
       have HGG:Hid (Blk w6 gg 114 (Q1f enc3 t.gates.length (gD t mg 0))):=Lib.hid (by rw [<- hgc]; exact HBG6.out)
       clear hbb hbel hoth hgc;go_wp2;clear c2
       go_loopw [46] (fun i wr=>∃ (k:Nat),k <= t.gates.length /\ i = .int .i64 k /\ Blk wr gg 114 (Q1f enc3 t.gates.length (gD t mg k)) /\ Ext wq wr /\ w6.heap.size <= wr.heap.size /\ ∀ b,b < w6.heap.size -> b ≠ gg -> wr.heap[b]? = w6.heap[b]?) (fun i _=>t.gates.length - (intOf i).toNat)
       case atStart=>exact ⟨0,Nat.zero_le _,rfl,HGG.out,HBEL6.out,Nat.le_refl _,fun _ _ _=>rfl⟩
       case round =>
        obtain ⟨k,hk,rfl,hgg,hbel,hsz,hoth⟩:=hrel
        by_cases hlt:k < t.gates.length
        . obtain ⟨_,_,he0,_,_,hcc⟩:=HT1.out.gates.opened
          cases he0;obtain ⟨b1,off,mv,rfl,hb1,e0,e1,e2,hM,hsh⟩:=hcc k hlt;replace e0:=hbel.cell e0;replace e1:=hbel.cell e1;replace e2:=hbel.cell e2;obtain ⟨A3,cap3,rfl,_,_,_⟩:=hM.opened;have hnd:=Valid.need HV.out hlt;obtain ⟨nm,hnm⟩:∃ x,Q2f t.gates k = x:=⟨_,rfl⟩;obtain ⟨nd,hndd⟩:∃ x,Q3e t.gates k = x:=⟨_,rfl⟩;obtain ⟨ml,hml⟩:∃ x,Q0i t.gates k = x:=⟨_,rfl⟩;rw [hnm] at e0;rw [hndd] at e1 hnd;rw [hml] at e2 hM hnd;have HNM:=Lib.hid hnm;have HND:=Lib.hid hndd;have HML:=Lib.hid hml;have HGG6:=Lib.hid hgg;have HBEL:=Lib.hid hbel;have HOTH:=Lib.hid hoth;have HB6:=Lib.hid (Q2s HB6.out (Q2a HB6.out HBG6.out (by decide)) hoth)
          have hkI:(k:Int) < t.gates.length:=by omega
          have hwr:=hbel.size;clear hgg hbel hoth hcc hM hnm hndd hml;go_wp2_with (refine Q0d rfl _ _ 114 rfl Tryz.X9m rfl rfl (Blk.made _ _ _) rfl rfl ?_ ?_; (focus (intro u hu; simp only [List.mem_cons,List.not_mem_nil,or_false] at hu; rcases hu with rfl | rfl | rfl <;> rfl)); intro w7 hb7 hl7 ho7; refine halted ?_)
          have hx7:Ext wr w7:=Below.trans (Ext.box wr _) (hl7 _ (Nat.le_refl _));have HX7:=Lib.hid hx7;have HGG7:=Lib.hid (HGG6.out.ext hx7);have s0:=hb7.cell 0;have s1:=hb7.cell 1;have s2:=hb7.cell 2;have s3:=(HB6.out.ext hx7).cell 2;simp only [Go.Tw.gA,Go.Tw.gB,Go.Tw.gC] at s0 s1 s2 s3;clear hb7 hl7 ho7 hx7 e0 e1 e2;unfold Q3g
          by_cases hk1:nm = Q8x
          . subst hk1
            unfold Q8x at s0;go_wp2_with (refine Q1n rfl _ _ 9 rfl Tryz.Z9b (u:=.string ⟨#[111,114]⟩) (g:=gg) (k:=k * 3 + 0) rfl rfl rfl rfl HGG7.out (by rw [Q1b Q0o]; omega) ?_; intro w8 hb8 hl8 ho8; refine halted ?_)
            have hbs:Blk w8 gg 114 (Q1f enc3 t.gates.length (gD t mg (k + 1))):=by
             have h:=hb8;rw [X1y (gD t mg k) (gD t mg (k + 1)) (r:=0) hlt (by decide) (Y4q t mg k 0 _ (by rw [Z0a HNM.out,HNM.out]; rfl)) (fun j hj=>Y0n t mg k j hj)] at h
             exact h
            have HBS:=Lib.hid hbs;have HE8:Hid (Ext wq w8):=Lib.hid (Below.trans (HBEL.out.trans HX7.out) (hl8 wq.heap.size (by omega)))
            have HS8:Hid (w6.heap.size <= w8.heap.size):=Lib.hid (Nat.le_trans hsz (Nat.le_trans HX7.out.size (hl8 0 (Nat.zero_le _)).size));have HO8:Hid (∀ b,b < w6.heap.size -> b ≠ gg -> w8.heap[b]? = w6.heap[b]?):=Lib.hid (fun b hb hne=>(ho8 b hne).trans ((HX7.out.block b (Nat.lt_of_lt_of_le hb hsz)).trans (HOTH.out b hb hne)));clear hb8 hl8 ho8 hbs s0 s1 s2 s3;unfold Q3g;go_wp2;go_roundw
            case rel=>exact ⟨k + 1,by omega,by go_num,HBS.out,HE8.out,HS8.out,HO8.out⟩
            case measure=>simp [intOf]; omega
          . have hb1:=Q5c X2q hk1
            by_cases hk2:nm = sOr
            . subst hk2
              clear hb1;unfold sOr at s0;go_wp2_with (refine Q1n rfl _ _ 9 rfl Tryz.Z9b (u:=.string ⟨#[97,110,100]⟩) (g:=gg) (k:=k * 3 + 0) rfl rfl rfl rfl HGG7.out (by rw [Q1b Q0o]; omega) ?_; intro w8 hb8 hl8 ho8; refine halted ?_)
              have hbs:Blk w8 gg 114 (Q1f enc3 t.gates.length (gD t mg (k + 1))):=by
               have h:=hb8;rw [X1y (gD t mg k) (gD t mg (k + 1)) (r:=0) hlt (by decide) (Y4q t mg k 0 _ (by rw [Z6i HNM.out,HNM.out]; rfl)) (fun j hj=>Y0n t mg k j hj)] at h
               exact h
              have HBS:=Lib.hid hbs;have HE8:Hid (Ext wq w8):=Lib.hid (Below.trans (HBEL.out.trans HX7.out) (hl8 wq.heap.size (by omega)))
              have HS8:Hid (w6.heap.size <= w8.heap.size):=Lib.hid (Nat.le_trans hsz (Nat.le_trans HX7.out.size (hl8 0 (Nat.zero_le _)).size));have HO8:Hid (∀ b,b < w6.heap.size -> b ≠ gg -> w8.heap[b]? = w6.heap[b]?):=Lib.hid (fun b hb hne=>(ho8 b hne).trans ((HX7.out.block b (Nat.lt_of_lt_of_le hb hsz)).trans (HOTH.out b hb hne)));clear hb8 hl8 ho8 hbs s0 s1 s2 s3;unfold Q3g;go_wp2;go_roundw
              case rel=>exact ⟨k + 1,by omega,by go_num,HBS.out,HE8.out,HS8.out,HO8.out⟩
              case measure=>simp [intOf]; omega
            . have hb2:=Q5c X5w hk2
              have HK1:=Lib.hid hk1;have HK2:=Lib.hid hk2;have hw1:IntKind.i64.wrap ((ml.length:Int) + 1) = (ml.length:Int) + 1:=wrap_in (by omega) (by omega)
              have hw2:IntKind.i64.wrap ((ml.length:Int) + 1 - nd) = (ml.length:Int) + 1 - nd:=wrap_in (by omega) (by omega)
              clear hk1 hk2;go_wp2_with (refine Q1n rfl _ _ 3 rfl Tryz.Z9c (u:=.int .i64 ((ml.length:Int) + 1 - nd)) (g:=gg) (k:=k * 3 + 1) rfl rfl rfl rfl HGG7.out (by rw [Q1b Q0o]; omega) ?_; intro w8 hb8 hl8 ho8; refine halted ?_)
              have hbs:Blk w8 gg 114 (Q1f enc3 t.gates.length (gD t mg (k + 1))):=by
               have h:=hb8;rw [X1y (gD t mg k) (gD t mg (k + 1)) (r:=1) hlt (by decide) (Y4q t mg k 1 _ (by rw [Y5t (by rw [HNM.out]; exact HK1.out) (by rw [HNM.out]; exact HK2.out),HML.out,HND.out]; rfl)) (fun j hj=>Y0n t mg k j hj)] at h
               exact h
              have HBS:=Lib.hid hbs;have HE8:Hid (Ext wq w8):=Lib.hid (Below.trans (HBEL.out.trans HX7.out) (hl8 wq.heap.size (by omega)))
              have HS8:Hid (w6.heap.size <= w8.heap.size):=Lib.hid (Nat.le_trans hsz (Nat.le_trans HX7.out.size (hl8 0 (Nat.zero_le _)).size));have HO8:Hid (∀ b,b < w6.heap.size -> b ≠ gg -> w8.heap[b]? = w6.heap[b]?):=Lib.hid (fun b hb hne=>(ho8 b hne).trans ((HX7.out.block b (Nat.lt_of_lt_of_le hb hsz)).trans (HOTH.out b hb hne)));clear hb8 hl8 ho8 hbs s0 s1 s2 s3;unfold Q3g;go_wp2;go_roundw
              case rel=>exact ⟨k + 1,by omega,by go_num,HBS.out,HE8.out,HS8.out,HO8.out⟩
              case measure=>simp [intOf]; omega
        . have e:k = t.gates.length:=by omega
          subst e;obtain ⟨w7,hw7⟩:∃ x,wr = x:=⟨_,rfl⟩;rw [hw7] at hgg hbel hsz hoth ⊢;clear hw7;have HGG7:=Lib.hid hgg;have HX7:Hid (Ext w w7):=Lib.hid (HX1.out.trans hbel);have HBB7:=Lib.hid (Q2s HBB6.out (Q2a HBB6.out HBG6.out (by decide)) hoth)
          have HBC7:=Lib.hid (Q2s HBC6.out (Q2a HBC6.out HBG6.out (by decide)) hoth)
          have HB7:=Lib.hid (Q2s HB6.out (Q2a HB6.out HBG6.out (by decide)) hoth)
          have HBR7:=Lib.hid (Q2s HBR6.out (Q2a HBR6.out HBG6.out (by decide)) hoth)
          have HM7:Hid (∀ i,i < t.causes.length -> Q0r w7 0 3 (.int .i64) (mc i) (Q0e t.causes i)):=Lib.hid (fun i hi=>Q6c (HM6.out i hi) HBG6.out (by decide) hoth)
          have HI7:Hid (∀ i,i < t.gates.length -> Q0r w7 0 3 (.int .i64) (mg i) (Q0i t.gates i)):=Lib.hid (fun i hi=>Q6c (HI6.out i hi) HBG6.out (by decide) hoth)
          clear hgg hbel hsz hoth;go_wp2_with (first | (refine Q0j rfl _ 33 rfl Tryz.Q2h Tryz.Q0u rfl HB7.out rfl ?_) | (refine Q0d rfl _ _ 33 rfl Tryz.Q0u rfl rfl HBR7.out rfl rfl ?_ ?_; (focus (intro u hu; simp only [List.mem_cons,List.not_mem_nil,or_false] at hu; rcases hu with rfl | rfl | rfl <;> rfl)); intro w8 hb8 hl8 ho8))
          have e1:=Q2a HBB7.out HBR7.out (by decide)
          have e2:=Q2a HBC7.out HBR7.out (by decide)
          have e3:=Q2a HGG7.out HBR7.out (by decide)
          have f1:=HBB7.out.only e1 ho8;have f2:=HBC7.out.only e2 ho8;have f3:=HGG7.out.only e3 ho8;have HM8:∀ i,i < t.causes.length -> Q0f w8 (mc i) (Q0e t.causes i):=fun i hi=>(Q3o (HM7.out i hi) HBR7.out (by decide) ho8).ints (HT.out.causes.short hi).2
          have HI8:∀ i,i < t.gates.length -> Q0f w8 (mg i) (Q0i t.gates i):=fun i hi=>(Q3o (HI7.out i hi) HBR7.out (by decide) ho8).ints (HT.out.gates.short hi).2
          refine bodyPost_ret (Q0n Tryz.results46 rfl hb8 Tryz.Q2h Tryz.Q0u rfl) rfl ?_;refine ⟨_,by rw [HE0.out]; rfl,?_,Below.trans HX7.out (hl8 _ (by omega))⟩
          rw [HDT.out];refine ⟨_,_,_,rfl,⟨?_,?_,?_⟩⟩
          . have hle:(t.basics.map Y7d).length = t.basics.length:=List.length_map _
            have:=Q9k (l:=t.basics.map Y7d) f1 (by omega) (by omega) fun i hi=>by
             rw [hle] at hi;obtain ⟨q1,q2⟩:=Y7i hi;rw [q1,q2];exact ⟨by unfold bD; rw [if_pos hi],HT.out.basics.short hi⟩
            rw [hle] at this;exact this
          . exact X1x f2 (Nat.le_refl _) HFIT.out.nc fun i hi=>⟨_,rfl,HM8 i hi,(HT.out.causes.short hi).1⟩
          . have hle:(t.gates.map X4v).length = t.gates.length:=List.length_map _
            have:=X3s (l:=t.gates.map X4v) f3 (by omega) (by omega) fun i hi=>by
             rw [hle] at hi;obtain ⟨q1,q2,q3⟩:=Z1a hi;rw [q1,q2,q3];exact ⟨_,by unfold gD; rw [if_pos hi],HI8 i hi,Z0w (HT.out.gates.short hi).1⟩
            rw [hle] at this;exact this
  . have hne:(E != 0) = true:=by simp [hE0]
    have HZT:Hid (Y8c t = ⟨[],[],[]⟩):=Lib.hid (by unfold Y8c; rw [if_neg (by rw [HFIN.out]; exact hE0)])
    go_wp2_with (refine Q0d rfl _ _ 33 rfl Tryz.Q0u rfl rfl hbr rfl rfl ?_ ?_; (focus (intro u hu; simp only [List.mem_cons,List.not_mem_nil,or_false] at hu; rcases hu with rfl | rfl | rfl <;> rfl)); intro w8 hb8 hl8 ho8)
    refine bodyPost_ret (Q0n Tryz.results46 rfl hb8 Tryz.Q2h Tryz.Q0u rfl) rfl ?_;refine ⟨_,by rw [HFIN.out]; rfl,?_,Below.trans HX1.out (hl8 _ (by omega))⟩
    rw [HZT.out];exact Q7g _
end Go.Proofs
namespace Go.Proofs
open Go.RowKit Go.Tw Go.Flow
theorem Tryz.X1v:(Tryz.prog.info? 9).map (fun i=>(i.zero,i.size,i.bytes)) = some (some (.string emp),1,16):=by kernel_rfl
def Q7t (x:Int):ByteArray:=⟨(Lib.decDigits x.toNat).toArray⟩
theorem Z2i (w:World) (x:Int) (h0:0 <= x) (h1:x < 100):Calls Tryz.prog 131 #[.int .i64 x] w fun e w'=>e = .returned (.string (Q7t x)) /\ w' = w:=by
 obtain ⟨n,rfl⟩:∃ n:Nat,x = n:=⟨x.toNat,by omega⟩
 exact Tryz.strconv_Itoa_small n (by omega) w
theorem Z1e (l:List Int) {k:Nat} (hk:k < l.length):(l.map Q7t).take k ++ [Q7t (ix l k)] = (l.map Q7t).take (k + 1):=by
 rw [List.take_succ_eq_append_getElem (by simpa using hk),Q6i hk]
 simp
theorem Y3s (w:World) (v:Value) (l:List Int) (hv:Q0f w v l) (hle:l.length <= 4096) (hm:∀ x ∈ l,0 <= x /\ x < 100) :
    Calls Tryz.prog 130 #[v,.func (.func 131) #[] #[]] w fun e w'=>∃ x,e = .returned x /\ Q0r w' w.heap.size 9 .string x (l.map Q7t) /\ Ext w w':=by
 obtain ⟨i0,hi,hz0,hz1,hz2⟩:=info_parts Tryz.X1v;obtain ⟨A,cap,rfl,hl,hcap,hc⟩:=hv.opened;have HC:=Lib.hid hc;have HM:=Lib.hid hm;clear hv hc hm;go_enter Tryz.func130,Tryz.ntmps130;go_wp2
 go_loopw [5,10] (fun o i wr=>∃ (k:Nat),k <= l.length /\ i = .int .i64 k /\ Q0r wr w.heap.size 9 .string o ((l.map Q7t).take k) /\ Ext w wr) (fun _ i _=>l.length - (intOf i).toNat)
 case atStart=>exact ⟨0,Nat.zero_le _,rfl,Q0r.nil _ _ _ _,Ext.refl _⟩
 case round =>
  obtain ⟨k,hk,rfl,hown,hx⟩:=hrel;have hlen:((l.map Q7t).take k).length = k:=by rw [List.length_take,List.length_map]; omega
  by_cases hlt:k < l.length
  . obtain ⟨b,off,rfl,hcell⟩:=HC.out k hlt
    have HTK:=Lib.hid (Z1e l hlt);have hmm:=HM.out (ix l k) (by rw [Q6i hlt]; exact List.getElem_mem hlt)
    obtain ⟨s,hs⟩:∃ s,ix l k = s:=⟨_,rfl⟩;rw [hs] at hcell hmm HTK;have HMM:=Lib.hid hmm;replace hcell:=hx.cell hcell;have hll:((l.map Q7t).take k).length <= 4096:=by omega
    obtain ⟨is,his⟩:∃ x,Q7t s = x:=⟨_,rfl⟩;rw [his] at HTK;have HIT:Hid (∀ w,Calls Tryz.prog 131 #[.int .i64 s] w fun e w'=>e = .returned (.string is) /\ w' = w):=Lib.hid (fun w=>by rw [<- his]; exact Z2i w s HMM.out.1 HMM.out.2)
    clear hs hmm hlen his;go_wp2_with (first | (go_at_call 131; refine (HIT.out _).mono ?_; rintro e w9 ⟨rfl,rfl⟩) | (at_builtin; refine wpList_append_own _ rfl _ _ 72 rfl (w.heap.size) 9 i0 (.string emp) 1 16 Tryz.underlying72 hi hz0 hz1 hz2 rfl (by decide) _ _ _ rfl (World.ownsRow.alloc hown _) ⟨w9.heap.size,0,none⟩ 1 1 [.string is] rfl rfl ?_ ?_ ?_ ?_ ?_ ?_; exact Q7q _ _ _; (focus (simp [Value.oneCell'])); (focus (unfold maxLen; omega)); (focus omega); (focus (have:=hx.size; simp at this ⊢; omega)); intro v' w1 hown' hgrow _))
    have hx':=Q4g hx hown (Nat.le_refl _) hgrow;go_wp2;go_roundw
    case rel=>exact ⟨k + 1,by omega,by go_num,by rw [<- HTK.out]; exact Q0r.snoc hown',hx'⟩
    case measure=>simp [intOf]; omega
  . have HE:Hid ((l.map Q7t).take k = l.map Q7t):=Lib.hid (by rw [List.take_of_length_le (by rw [List.length_map]; omega)])
    rw [HE.out] at hown;have HOWN:=Lib.hid hown;clear hown hlen;go_wp2;go_ret;exact ⟨_,rfl,HOWN.out,hx⟩
end Go.Proofs
