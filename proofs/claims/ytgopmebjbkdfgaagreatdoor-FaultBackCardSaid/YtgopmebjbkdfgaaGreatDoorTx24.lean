/- Contract: Dual. Contracts: mapped(numbers, strconv.Itoa); line. Contract: line. -/
import Derived.Test.YtgopmebjbkdfgaaGreatDoorTx23
set_option maxRecDepth 1000000
set_option maxHeartbeats 64000000
set_option linter.unusedVariables false
set_option linter.unusedSimpArgs false
set_option linter.constructorNameAsVariable false
namespace Go.Proofs
open Go.RowKit Go.Tw Go.Flow
theorem Tryz.Z9d (w:World):(sizeOf 3).run Tryz.prog w = .ok 1 w:=by kernel_rfl
theorem Tryz.Z8p (w:World):(sizeOf 9).run Tryz.prog w = .ok 1 w:=by kernel_rfl
theorem Y4g (f f':Nat -> ByteArray × Int) {n i r:Nat} {x:Value} (hi:i < n) (hr:r < 2) (h1:enc2 (f' i) = (enc2 (f i)).set r x) (h2:∀ j,j ≠ i -> f' j = f j):(Q1c enc2 n f).setIfInBounds (i * 2 + r) x = Q1c enc2 n f':=by
 apply Array.ext_getElem?
 intro j;have hs:=Q1d Q3g n f;have hs':=Q1d Q3g n f';rw [Array.getElem?_setIfInBounds]
 by_cases hj:j < n * 2
 . have e:j = j / 2 * 2 + j % 2:=by omega
   by_cases hji:i * 2 + r = j
   . rw [if_pos hji,if_pos (by omega)]
     conv=>rhs; rw [e]
     rw [Q2h Q3g _ (by omega) (by omega),show j / 2 = i by omega,show j % 2 = r by omega,h1,List.getElem?_set_self (by rw [Q3g]; exact hr)]
   . rw [if_neg hji]
     conv=>lhs; rw [e]
     conv=>rhs; rw [e]
     rw [Q2h Q3g _ (by omega) (by omega),Q2h Q3g _ (by omega) (by omega)]
     by_cases hq:j / 2 = i
     . rw [hq,h1,List.getElem?_set_ne (by omega)]
     . rw [h2 _ hq]
 . rw [if_neg (by omega),Array.getElem?_eq_none (by omega),Array.getElem?_eq_none (by omega)]
theorem X0q (f f':Nat -> ByteArray × Int × Value) {n i r:Nat} {x:Value} (hi:i < n) (hr:r < 3) (h1:enc3 (f' i) = (enc3 (f i)).set r x) (h2:∀ j,j ≠ i -> f' j = f j):(Q1c enc3 n f).setIfInBounds (i * 3 + r) x = Q1c enc3 n f':=by
 apply Array.ext_getElem?
 intro j;have hs:=Q1d Q0u n f;have hs':=Q1d Q0u n f';rw [Array.getElem?_setIfInBounds]
 by_cases hj:j < n * 3
 . have e:j = j / 3 * 3 + j % 3:=by omega
   by_cases hji:i * 3 + r = j
   . rw [if_pos hji,if_pos (by omega)]
     conv=>rhs; rw [e]
     rw [Q2h Q0u _ (by omega) (by omega),show j / 3 = i by omega,show j % 3 = r by omega,h1,List.getElem?_set_self (by rw [Q0u]; exact hr)]
   . rw [if_neg hji]
     conv=>lhs; rw [e]
     conv=>rhs; rw [e]
     rw [Q2h Q0u _ (by omega) (by omega),Q2h Q0u _ (by omega) (by omega)]
     by_cases hq:j / 3 = i
     . rw [hq,h1,List.getElem?_set_ne (by omega)]
     . rw [h2 _ hq]
 . rw [if_neg (by omega),Array.getElem?_eq_none (by omega),Array.getElem?_eq_none (by omega)]
theorem Valid.need {t:Tree} (h:Valid t) {k:Nat} (hk:k < t.gates.length):(Q0m t.gates k).length <= 12 /\ 0 <= Q3e t.gates k /\ Q3e t.gates k <= 12:=by
 have:=h.gate k hk;unfold Tree.Q1z Q8n at this;rw [Q1h] at this;have h1:=this (if 12 < (Q0m t.gates k).length then 5 else 0) (by simp)
 have h2:=this (X0x (Q2f t.gates k) (Q3e t.gates k) (Q0m t.gates k).length) (by simp)
 have h3:(Q0m t.gates k).length <= 12:=by
  split at h1
  . cases h1
  . omega
 refine ⟨h3,?_⟩;unfold X0x Q0k at h2
 split at h2
 . split at h2
   . cases h2
   . omega
 . split at h2
   . cases h2
   . omega
def Y7x (b:Basic):Basic:=⟨b.name,16 - b.chance⟩
def X3o (g:Gate):Gate:=if g.kind = X0g then ⟨sOr,g.need,g.inputs⟩ else if g.kind = sOr then ⟨X0g,g.need,g.inputs⟩ else ⟨g.kind,(g.inputs.length:Int) + 1 - g.need,g.inputs⟩
def X2i (t:Tree):Int:=Q0g [t.err,Q0l (decide (0 < t.causes.length)) 19]
def Y7q (t:Tree):Tree:=if X2i t = 0 then ⟨t.basics.map Y7x,t.causes,t.gates.map X3o⟩ else ⟨[],[],[]⟩
def bD (t:Tree) (k i:Nat):ByteArray × Int:=if i < k then (bName t.basics i,16 - Q1b t.basics i) else bF t i
def gDk (t:Tree) (i:Nat):ByteArray × Int:=let g:=X3o (t.gates.getD i default); (g.kind,g.need)
def gD (t:Tree) (mg:Nat -> Value) (k i:Nat):ByteArray × Int × Value:=if i < k then ((gDk t i).1,(gDk t i).2,mg i) else gF t mg i
theorem Z6i (t:Tree) (k:Nat):enc2 (bD t (k + 1) k) = (enc2 (bD t k k)).set 1 (.int .i64 (16 - Q1b t.basics k)):=by
 unfold bD;rw [if_pos (by omega),if_neg (by omega)]; rfl
theorem Z3h (t:Tree) (k j:Nat) (h:j ≠ k):bD t (k + 1) j = bD t k j:=by
 unfold bD
 by_cases hj:j < k
 . rw [if_pos hj,if_pos (by omega)]
 . rw [if_neg hj,if_neg (by omega)]
theorem X8q (t:Tree) (mg:Nat -> Value) (k j:Nat) (h:j ≠ k):gD t mg (k + 1) j = gD t mg k j:=by
 unfold gD
 by_cases hj:j < k
 . rw [if_pos hj,if_pos (by omega)]
 . rw [if_neg hj,if_neg (by omega)]
theorem Z0v {t:Tree} {k:Nat} (h:Q2f t.gates k = X0g):gDk t k = (sOr,Q3e t.gates k):=by
 unfold Q2f at h;unfold gDk X3o Q3e;simp only [h,if_true]
theorem Z9b:¬ sOr = X0g:=by decide
theorem Z5g {t:Tree} {k:Nat} (h:Q2f t.gates k = sOr):gDk t k = (X0g,Q3e t.gates k):=by
 unfold Q2f at h;unfold gDk X3o Q3e;simp only [h,if_neg Z9b,if_true]
theorem Y5q {t:Tree} {k:Nat} (h:¬ Q2f t.gates k = X0g) (h2:¬ Q2f t.gates k = sOr):gDk t k = (Q2f t.gates k,((Q0m t.gates k).length:Int) + 1 - Q3e t.gates k):=by
 unfold Q2f at *;unfold gDk X3o Q3e Q0m;simp only [if_neg h,if_neg h2]
theorem Y3c (t:Tree) (mg:Nat -> Value) (k r:Nat) (x:Value) (h:enc3 ((gDk t k).1,(gDk t k).2,mg k) = (enc3 (Q2f t.gates k,Q3e t.gates k,mg k)).set r x):enc3 (gD t mg (k + 1) k) = (enc3 (gD t mg k k)).set r x:=by
 unfold gD;rw [if_pos (by omega),if_neg (by omega)]; exact h
theorem Y7i {t:Tree} {i:Nat} (hi:i < t.basics.length):bName (t.basics.map Y7x) i = bName t.basics i /\ Q1b (t.basics.map Y7x) i = 16 - Q1b t.basics i:=by
 unfold bName Q1b;rw [getD_at (by rw [List.length_map]; exact hi),getD_at hi,List.getElem_map]
 exact ⟨rfl,rfl⟩
theorem Y9b {t:Tree} {i:Nat} (hi:i < t.gates.length):Q2f (t.gates.map X3o) i = (gDk t i).1 /\ Q3e (t.gates.map X3o) i = (gDk t i).2 /\ Q0m (t.gates.map X3o) i = Q0m t.gates i:=by
 unfold Q2f Q3e Q0m gDk;rw [getD_at (by rw [List.length_map]; exact hi),getD_at hi,List.getElem_map]
 refine ⟨rfl,rfl,?_⟩;unfold X3o
 split
 . rfl
 . split <;> rfl
theorem Z0z {t:Tree} {i:Nat} (h:Short (Q2f t.gates i)):Short (gDk t i).1:=by
 by_cases h1:Q2f t.gates i = X0g
 . rw [Z0v h1]; show sOr.size <= _; decide
 . by_cases h2:Q2f t.gates i = sOr
   . rw [Z5g h2]; show X0g.size <= _; decide
   . rw [Y5q h1 h2]; exact h
theorem Y8j (w:World) (v:Value) (t:Tree) (ht:IsTree w v t) :
    Calls Tryz.prog 46 #[v] w fun e w'=>∃ u,e = .returned (.tuple #[u,.int .i64 (X2i t)]) /\ IsTree w' u (Y7q t) /\ Ext w w':=by
 obtain ⟨E0,hE0⟩:∃ E,t.err = E:=⟨_,rfl⟩;obtain ⟨q,hq⟩:∃ q,decide (0 < t.causes.length) = q:=⟨_,rfl⟩;obtain ⟨E,hE⟩:∃ E,Q0g [E0,Q0l q 19] = E:=⟨_,rfl⟩;have HFIN:Hid (X2i t = E):=Lib.hid (by unfold X2i; rw [hE0,hq]; exact hE)
 have HE:Hid (∀ (w':World) (u:Value),Q0e w' u [E0,Q0l q 19] -> Calls Tryz.prog 48 #[u] w' fun e w''=>e = .returned (.int .i64 E) /\ w' = w''):=by
  exact (by intro w' u h; rw [<- hE]; exact first_any _ _ _ h:∀ (w':World) (u:Value),Q0e w' u [E0,Q0l q 19] -> Calls Tryz.prog 48 #[u] w' fun e w''=>e = .returned (.int .i64 E) /\ w' = w'')
 have HC:Hid (∀ (w':World) (v:Value),IsTree w' v t -> Calls Tryz.prog 49 #[v] w' fun e w''=>e = .returned (.int .i64 E0) /\ Ext w' w''):=by
  exact (by intro w' v h; rw [<- hE0]; exact Q1y _ _ _ h:∀ (w':World) (v:Value),IsTree w' v t -> Calls Tryz.prog 49 #[v] w' fun e w''=>e = .returned (.int .i64 E0) /\ Ext w' w'')
 have HW:Hid (∀ w',Calls Tryz.prog 50 #[.bool (decide (0 < t.causes.length)),.int .i64 19] w' fun e w''=>e = .returned (.int .i64 (Q0l q 19)) /\ w' = w''):=by
  exact (by intro w'; rw [hq]; exact Q5j _ _ _:∀ w',Calls Tryz.prog 50 #[.bool (decide (0 < t.causes.length)),.int .i64 19] w' fun e w''=>e = .returned (.int .i64 (Q0l q 19)) /\ w' = w'')
 have HEQ:=Lib.hid hE0;have HEE:=Lib.hid hE;have HQ:=Lib.hid hq;clear hE0 hE hq;obtain ⟨a,b,c,rfl,h3⟩:=ht;obtain ⟨A,capa,rfl,hl1,hcap1,_⟩:=h3.basics.opened;obtain ⟨B,capb,rfl,hl2,hcap2,_⟩:=h3.causes.opened;obtain ⟨G,capg,rfl,hl3,hcap3,_⟩:=h3.gates.opened;have HT0:=Lib.hid h3;clear h3;go_enter Tryz.func46,Tryz.ntmps46;go_wp2_with fail;change Code.wp _ _ _ _ ((w.alloc (.cells #[.slice A t.basics.length capa,.slice B t.causes.length capb,.slice G t.gates.length capg] 33)).alloc (.cells #[.slice none 0 0,.slice none 0 0,.slice none 0 0] 33));obtain ⟨W,hWW,k0,k1,HXW,eW⟩:=Q5l w 33 #[.slice A t.basics.length capa,.slice B t.causes.length capb,.slice G t.gates.length capg] 33 #[.slice none 0 0,.slice none 0 0,.slice none 0 0];rw [hWW];clear hWW;have HT:=Lib.hid (HT0.out.ext HXW.out);have K0:=Lib.hid k0;have hdr:=(Ext.refl W).drew;refine Flow.Q2p [.w,.w,.p,.w,.p,.p,.w,.w,.w,.p] [0,1,2,3,4,5,6,7,8,9] [[],[0],[],[2],[3],[4],[1,5],[1,6],[6,7],[0,1,2,3,4,5,6,7,8]]
  [.c 0 (.agg #[.slice A t.basics.length capa,.slice B t.causes.length capb,.slice G t.gates.length capg]),.c 1 (.int .i64 E0),.c 2 (.pointer (some ⟨w.heap.size,1,none⟩)),.c 3 (.slice B t.causes.length capb),.c 4 (.int .i64 ((t.causes.length:Nat):Int)),.c 5 (.bool (decide (0 < t.causes.length))),.c 6 (.int .i64 (Q0l q 19)),⟨fun v wz=>Q0e wz (v 7) [E0,Q0l q 19],fun _ _ _ hx h=>h.ext hx⟩,.c 8 (.int .i64 E),.c 9 (.int .i64 E)]
  (by kernel_rfl) rfl (by kernel_rfl) ⟨?g0,?g1,?g2,?g3,?g4,?g5,?g6,?g7,?g8,?g9,trivial⟩ ?post
 case g0=>
  intro v w1 hx;intro bb hbb;intro K hK;have o1:bb.eval (.tmp 1) = .pointer (some ⟨w.heap.size,0,none⟩):=by rw [hbb]; dsimp only; (try simp (discharger:=decide) only [eval_put_ne]); rfl
  exact Q0n (.tmp 1) _ rfl Tryz.Q2n Tryz.Q0v o1 (K0.out.ext (hdr.trans hx)) rfl (hK _ _ (Ext.refl _) rfl)
 case g1=>
  intro v w1 hx;(repeat intro (zq:v _ = _));intro bb hbb;subst hbb;intro K hK;go_simp;refine Q0d (HC.out w1 _ ⟨_,_,_,rfl,HT.out.ext (hdr.trans hx)⟩) ?_;rintro e w2 ⟨rfl,hx2⟩;exact ⟨_,rfl,hK _ _ hx2 rfl⟩
 case g2=>
  intro v w1 hx;intro bb hbb;subst hbb;refine ⟨_,fun w=>?_,rfl⟩;go_simp
 case g3=>
  intro v w1 hx;(repeat intro (zq:v _ = _));intro bb hbb;subst hbb;have n0:w1.cell? ⟨w.heap.size,1,none⟩ = some (.slice B t.causes.length capb):=(K0.out.ext (hdr.trans hx)).cell 1;intro K hK;go_simp;exact hK _ _ (Ext.refl _) rfl
 case g4 | g5=>
  intro v w1 hx;(repeat intro (zq:v _ = _));intro bb hbb;subst hbb;refine ⟨_,fun w=>?_,rfl⟩;go_simp
 case g6=>
  intro v w1 hx;(repeat intro (zq:v _ = _));intro bb hbb;subst hbb;intro K hK;go_simp;refine Q0d (HW.out _) ?_;rintro e w2 ⟨rfl,rfl⟩;exact ⟨_,rfl,hK _ _ (Ext.refl _) rfl⟩
 case g7=>
  intro v w1 hx;(repeat intro (zq:v _ = _));intro bb hbb;subst hbb;intro K hK;go_simp;exact hK _ _ (Ext.box _ _) (Q3h (l:=[E0,Q0l q 19]) (by simp))
 case g8=>
  intro v w1 hx (q6:v 6 = _) (q7:Q0e w1 (v 7) [E0,Q0l q 19]);intro bb hbb;subst hbb;intro K hK;go_simp;refine Q0d (HE.out _ _ q7) ?_;rintro e w2 ⟨rfl,rfl⟩;exact ⟨_,rfl,hK _ _ (Ext.refl _) rfl⟩
 case g9=>
  intro v w1 hx (q0:v 0 = _) (q1:v 1 = _) (q2:v 2 = _) (q3:v 3 = _) (q4:v 4 = _) (q5:v 5 = _) (q6:v 6 = _) _ (q8:v 8 = _);intro bb hbb;subst hbb;refine ⟨_,fun w=>?_,rfl⟩;go_simp
 case post =>
  intro v w1 hx (q0:v 0 = _) (q1:v 1 = _) (q2:v 2 = _) (q3:v 3 = _) (q4:v 4 = _) (q5:v 5 = _) (q6:v 6 = _) (q7:Q0e w1 (v 7) [E0,Q0l q 19]) (q8:v 8 = _) (q9:v 9 = _);simp only [Flow.All,Flow.acts,Act.put];go_simp;obtain ⟨wq,hwq⟩:∃ x,x = w1:=⟨_,rfl⟩;subst hwq;have hx1:=hdr.trans hx;have HX1:=Lib.hid (HXW.out.trans hx1);have HK0:=Lib.hid (K0.out.ext hx1);have HT1:=Lib.hid (HT.out.ext hx1);have hbr:=k1.ext hx1;clear hx1 hx hdr k0 k1 K0 q0 q1 q2 q3 q4 q5 q6 q7 q8 HC HW HE HQ
  by_cases hE0:E = 0
  . have hne:(E != 0) = false:=by simp [hE0]
    have HDT:Hid (Y7q t = ⟨t.basics.map Y7x,t.causes,t.gates.map X3o⟩):=Lib.hid (by unfold Y7q; rw [if_pos (by rw [HFIN.out,hE0])])
    have hz:E0 = 0:=by
     have h0:=HEE.out.trans hE0;rw [Q1h] at h0;exact h0 _ (by simp)
    have HV:=Lib.hid (Valid.of (HEQ.out.trans hz));have HE0:Hid (X2i t = 0):=Lib.hid (HFIN.out.trans hE0);have HFIT:=Lib.hid HV.out.fit;clear hE0 hz;go_wp2_with (refine Q0i rfl _ 33 rfl Tryz.Q2n Tryz.Q0v rfl HK0.out rfl ?_);refine (X8a _ _ t HFIT.out.nb HFIT.out.nc HFIT.out.ng ⟨_,_,_,rfl,HT1.out⟩).mono ?_;rintro e w4 ⟨gb,gc,gg,mc,mg,rfl,hown,hx4⟩;have HBR:=Lib.hid (hbr.ext hx4);have HX4:=Lib.hid (HX1.out.trans hx4);have HX14:=Lib.hid hx4;have HOWN:=Lib.hid hown;clear hown hx4 hbr;go_wp2_with (refine Q0c rfl _ _ 33 rfl Tryz.Q0v rfl rfl (Blk.made _ _ _) rfl rfl ?_ ?_; (focus (intro u hu; simp only [List.mem_cons,List.not_mem_nil,or_false] at hu; rcases hu with rfl | rfl | rfl <;> rfl)); intro w5 hb5 hl5 ho5; refine halted ?_)
    have hx5:Ext w4 w5:=Below.trans (Ext.box w4 _) (hl5 _ (Nat.le_refl _));have HX5:=Lib.hid (HX14.out.trans hx5);have HXX5:=Lib.hid (HX4.out.trans hx5);have HOWN5:=Lib.hid (HOWN.out.ext hx5);have HK5:=Lib.hid (HK0.out.ext HX5.out);have HB5:=Lib.hid hb5;have HBR5:=Lib.hid (HBR.out.ext hx5);have hob:=HOWN.out.b;have hog:=HOWN.out.g;have hoc:=HOWN.out.c;have hwl:=HX1.out.size;have hgbl:=HOWN.out.bas.lt;have hl5s:=hb5.lt;have d0:=hb5.cell 0;simp only [Go.Tw.gA,Go.Tw.gB] at d0;have hnb:=HFIT.out.nb;clear hb5 hl5 ho5 hx5;unfold Q2t;go_wp2;have hbc:Q1c enc2 t.basics.length (bF t) = Q1c enc2 t.basics.length (bD t 0):=Q3r fun i _=>by simp [bD]
    have HOB:Hid (Blk w5 gb 103 (Q1c enc2 t.basics.length (bD t 0))):=Lib.hid (by rw [<- hbc]; exact HOWN5.out.bas)
    clear hbc d0
    go_loopw [27] (fun i wr=>∃ (k:Nat),k <= t.basics.length /\ i = .int .i64 k /\ Blk wr gb 103 (Q1c enc2 t.basics.length (bD t k)) /\ Ext wq wr /\ w5.heap.size <= wr.heap.size /\ ∀ b,b < w5.heap.size -> b ≠ gb -> wr.heap[b]? = w5.heap[b]?) (fun i _=>t.basics.length - (intOf i).toNat)
    case atStart=>exact ⟨0,Nat.zero_le _,rfl,HOB.out,HX5.out,Nat.le_refl _,fun _ _ _=>rfl⟩
    case round =>
     obtain ⟨k,hk,rfl,hbb,hbel,hsz,hoth⟩:=hrel
     by_cases hlt:k < t.basics.length
     . obtain ⟨_,_,he0,_,_,hcc⟩:=HT1.out.basics.opened
       cases he0;obtain ⟨b1,off,rfl,hb1,e0,e1,hsh⟩:=hcc k hlt;replace e1:=hbel.cell e1;obtain ⟨ch,hch⟩:∃ x,Q1b t.basics k = x:=⟨_,rfl⟩;have hchb:0 <= ch /\ ch <= 16:=by
        have h:=HV.out.chance (i:=k) (by unfold Tree.size; omega)
        unfold Tree.Q1g at h;rw [if_pos hlt,hch] at h;exact h
       rw [hch] at e1;have HCH:=Lib.hid hch;have HBB:=Lib.hid hbb;have HBEL:=Lib.hid hbel;have HOTH:=Lib.hid hoth;have HB6:=Lib.hid (Q2k HB5.out (Q2b HB5.out HOWN5.out.bas (by decide)) hoth)
       have HK6:=Lib.hid (Q2k HK5.out (Q2b HK5.out HOWN5.out.bas (by decide)) hoth)
       have hkI:(k:Int) < t.basics.length:=by omega
       have hdr:=(Ext.refl wr).drew;have hsub:IntKind.i64.wrap (16 - ch) = 16 - ch:=wrap_in (by omega) (by omega)
       clear hbb hbel hoth hcc hch e0;go_wp2;refine Flow.Q3x [.p,.w,.p,.p,.w,.p,.p,.p,.w,.p,.p,.p,.last] [0,1,2,3,4,5,6,7,8,9,10,11,12] [[],[0],[],[],[3],[],[3,4,5],[3,4,5,6],[3,4,5,6,7],[3,4,5,6,7,8],[0,1,2,3,4,5,6,7,8,9],[0,1,2,3,4,5,6,7,8,9,10],[0,1,2,3,4,5,6,7,8,9,10,11]] [12]
        [.c 0 (.pointer (some ⟨w4.heap.size,0,none⟩)),.c 1 (.slice (some ⟨gb,0,none⟩) t.basics.length t.basics.length),.c 2 (.int .i64 k),.c 3 (.pointer (some ⟨w.heap.size,0,none⟩)),.c 4 (.slice (some ⟨b1,off,none⟩) t.basics.length capa),.c 5 (.int .i64 k),.c 6 (.pointer (some ⟨b1,off + k * 2,none⟩)),.c 7 (.pointer (some ⟨b1,off + k * 2 + 1,none⟩)),.c 8 (.int .i64 ch),.c 9 (.int .i64 (16 - ch)),.c 10 (.pointer (some ⟨gb,k * 2,none⟩)),.c 11 (.pointer (some ⟨gb,k * 2 + 1,none⟩)),.none]
        [fun v w1 w2=>Blk w2 gb 103 ((Q1c enc2 t.basics.length (bD t k)).setIfInBounds (k * 2 + 1) (.int .i64 (16 - ch))) /\ (∀ n,n <= gb -> Below n w1 w2) /\ ∀ k,k ≠ gb -> w2.heap[k]? = w1.heap[k]?] (by kernel_rfl) rfl (by kernel_rfl) ⟨?g0,?g1,?g2,?g3,?g4,?g5,?g6,?g7,?g8,?g9,?g10,?g11,?g12,trivial⟩ ?post
       case g0 | g2 | g3 | g5=>
        intro v w1 hx;intro bb hbb;subst hbb;refine ⟨_,fun w=>?_,rfl⟩;go_simp
       case g1 | g4 | g8=>
        intro v w1 hx;(repeat intro (zq:v _ = _));intro bb hbb;subst hbb;have n0:w1.cell? ⟨w4.heap.size,0,none⟩ = some (.slice (some ⟨gb,0,none⟩) t.basics.length t.basics.length):=(HB6.out.ext (hdr.trans hx)).cell 0;have n1:w1.cell? ⟨w.heap.size,0,none⟩ = some (.slice (some ⟨b1,off,none⟩) t.basics.length capa):=(HK6.out.ext (hdr.trans hx)).cell 0;have n2:w1.cell? ⟨b1,off + k * 2 + 1,none⟩ = some (.int .i64 ch):=(hdr.trans hx).cell e1;intro K hK;go_simp;exact hK _ _ (Ext.refl _) rfl
       case g6 | g7 | g9 | g10 | g11=>
        intro v w1 hx;(repeat intro (zq:v _ = _));intro bb hbb;subst hbb;refine ⟨_,fun w=>?_,rfl⟩;go_simp
       case g12=>
        intro v w1 hx;(repeat intro (zq:v _ = _));intro wl hT;obtain rfl:wl = w1:=hT;intro bb hbb;intro K hK;have o1:bb.eval (.tmp 41) = .pointer (some ⟨gb,k * 2 + 1,none⟩):=by rw [hbb]; dsimp only; (try simp (discharger:=decide) only [eval_put_ne]); rw [Q0a (by simp only [size_put]; exact (by decide:41 < 81))]; assumption
        have o2:bb.eval (.tmp 39) = .int .i64 (16 - ch):=by rw [hbb]; dsimp only; (try simp (discharger:=decide) only [eval_put_ne]); rw [Q0a (by simp only [size_put]; exact (by decide:39 < 81))]; assumption
        have hbx:=HBB.out.ext (hdr.trans hx);refine Q2l (.tmp 41) (.tmp 39) rfl Tryz.Z9d o1 o2 rfl rfl hbx (by rw [Q1d Q3g]; omega) (fun vv=>hK _ _ ⟨hbx.set _ _,fun n hn=>(Below.refl n _).setCell (p:=⟨gb,k * 2 + 1,none⟩) hn _,fun k' hk'=>Below.heap_setCell _ _ _ _ hk'⟩)
       case post =>
        intro v w1 hx;(iterate 12 intro (zq:v _ = _));intro w2 hE;replace hE:(fun v w1 w2=>Blk w2 gb 103 ((Q1c enc2 t.basics.length (bD t k)).setIfInBounds (k * 2 + 1) (.int .i64 (16 - ch))) /\ (∀ n,n <= gb -> Below n w1 w2) /\ ∀ k,k ≠ gb -> w2.heap[k]? = w1.heap[k]?) v w1 w2:=hE;simp only [Flow.acts,Act.put];go_simp;obtain ⟨hb6,hlow,hot6⟩:=hE;have h1:=Z6i t k;rw [HCH.out] at h1;rw [Y4g (bD t k) (bD t (k + 1)) hlt (by decide) h1 (fun j hj=>Z3h t k j hj)] at hb6
        have hxx:=hdr.trans hx;have HBS:=Lib.hid hb6;have HE6:Hid (Ext wq w2):=Lib.hid (Below.trans (HBEL.out.trans hxx) (hlow wq.heap.size (by omega)))
        have HS6:Hid (w5.heap.size <= w2.heap.size):=Lib.hid (Nat.le_trans hsz (Nat.le_trans hxx.size (hlow 0 (Nat.zero_le _)).size));have HO6:Hid (∀ b,b < w5.heap.size -> b ≠ gb -> w2.heap[b]? = w5.heap[b]?):=Lib.hid (fun b hb hne=>(hot6 b hne).trans ((hxx.block b (Nat.lt_of_lt_of_le hb hsz)).trans (HOTH.out b hb hne)));clear hb6 hlow hot6 hxx hx hdr h1;(repeat clear zq);go_wp2;go_roundw
        case rel=>exact ⟨k + 1,by omega,by go_num,HBS.out,HE6.out,HS6.out,HO6.out⟩
        case measure=>simp [intOf]; omega
     . have e:k = t.basics.length:=by omega
       subst e;obtain ⟨w6,hw6⟩:∃ x,wr = x:=⟨_,rfl⟩;rw [hw6] at hbb hbel hsz hoth ⊢;clear hw6;have HBB6:=Lib.hid hbb;have HBEL6:=Lib.hid hbel;have HBC6:=Lib.hid (Q2k HOWN5.out.cau (Q2b HOWN5.out.cau HOWN5.out.bas (by decide)) hoth)
       have HBG6:=Lib.hid (Q2k HOWN5.out.gat (Q2b HOWN5.out.gat HOWN5.out.bas (by decide)) hoth)
       have HB6:=Lib.hid (Q2k HB5.out (Q2b HB5.out HOWN5.out.bas (by decide)) hoth)
       have HBR6:=Lib.hid (Q2k HBR5.out (Q2b HBR5.out HOWN5.out.bas (by decide)) hoth)
       have HK6:=Lib.hid (Q2k HK5.out (Q2b HK5.out HOWN5.out.bas (by decide)) hoth)
       have HM6:Hid (∀ i,i < t.causes.length -> Q0s w6 0 3 (.int .i64) (mc i) (Q0f t.causes i)):=Lib.hid (fun i hi=>Q5p (HOWN5.out.mem i hi) HOWN5.out.bas (by decide) hoth)
       have HI6:Hid (∀ i,i < t.gates.length -> Q0s w6 0 3 (.int .i64) (mg i) (Q0m t.gates i)):=Lib.hid (fun i hi=>Q5p (HOWN5.out.inp i hi) HOWN5.out.bas (by decide) hoth)
       have HXW6:Hid (Ext w w6):=Lib.hid (HX1.out.trans hbel);have hgg6:=HBG6.out.lt;have hng:=HFIT.out.ng;have c2:=HK6.out.cell 2;simp only [Go.Tw.gA,Go.Tw.gB,Go.Tw.gC] at c2;have hgc:Q1c enc3 t.gates.length (gF t mg) = Q1c enc3 t.gates.length (gD t mg 0):=Q3r fun i _=>by simp [gD]
       have HGG:Hid (Blk w6 gg 114 (Q1c enc3 t.gates.length (gD t mg 0))):=Lib.hid (by rw [<- hgc]; exact HBG6.out)
       clear hbb hbel hoth hgc;go_wp2;clear c2
       go_loopw [46] (fun i wr=>∃ (k:Nat),k <= t.gates.length /\ i = .int .i64 k /\ Blk wr gg 114 (Q1c enc3 t.gates.length (gD t mg k)) /\ Ext wq wr /\ w6.heap.size <= wr.heap.size /\ ∀ b,b < w6.heap.size -> b ≠ gg -> wr.heap[b]? = w6.heap[b]?) (fun i _=>t.gates.length - (intOf i).toNat)
       case atStart=>exact ⟨0,Nat.zero_le _,rfl,HGG.out,HBEL6.out,Nat.le_refl _,fun _ _ _=>rfl⟩
       case round =>
        obtain ⟨k,hk,rfl,hgg,hbel,hsz,hoth⟩:=hrel
        by_cases hlt:k < t.gates.length
        . obtain ⟨_,_,he0,_,_,hcc⟩:=HT1.out.gates.opened
          cases he0;obtain ⟨b1,off,mv,rfl,hb1,e0,e1,e2,hM,hsh⟩:=hcc k hlt;replace e0:=hbel.cell e0;replace e1:=hbel.cell e1;replace e2:=hbel.cell e2;obtain ⟨A3,cap3,rfl,_,_,_⟩:=hM.opened;have hnd:=Valid.need HV.out hlt;obtain ⟨nm,hnm⟩:∃ x,Q2f t.gates k = x:=⟨_,rfl⟩;obtain ⟨nd,hndd⟩:∃ x,Q3e t.gates k = x:=⟨_,rfl⟩;obtain ⟨ml,hml⟩:∃ x,Q0m t.gates k = x:=⟨_,rfl⟩;rw [hnm] at e0;rw [hndd] at e1 hnd;rw [hml] at e2 hM hnd;have HNM:=Lib.hid hnm;have HND:=Lib.hid hndd;have HML:=Lib.hid hml;have HGG6:=Lib.hid hgg;have HBEL:=Lib.hid hbel;have HOTH:=Lib.hid hoth;have HB6:=Lib.hid (Q2k HB6.out (Q2b HB6.out HBG6.out (by decide)) hoth)
          have hkI:(k:Int) < t.gates.length:=by omega
          have hwr:=hbel.size;clear hgg hbel hoth hcc hM hnm hndd hml;go_wp2_with (refine Q0c rfl _ _ 114 rfl Tryz.X9m rfl rfl (Blk.made _ _ _) rfl rfl ?_ ?_; (focus (intro u hu; simp only [List.mem_cons,List.not_mem_nil,or_false] at hu; rcases hu with rfl | rfl | rfl <;> rfl)); intro w7 hb7 hl7 ho7; refine halted ?_)
          have hx7:Ext wr w7:=Below.trans (Ext.box wr _) (hl7 _ (Nat.le_refl _));have HX7:=Lib.hid hx7;have HGG7:=Lib.hid (HGG6.out.ext hx7);have s0:=hb7.cell 0;have s1:=hb7.cell 1;have s2:=hb7.cell 2;have s3:=(HB6.out.ext hx7).cell 2;simp only [Go.Tw.gA,Go.Tw.gB,Go.Tw.gC] at s0 s1 s2 s3;clear hb7 hl7 ho7 hx7 e0 e1 e2;unfold Q2t
          by_cases hk1:nm = X0g
          . subst hk1
            unfold X0g at s0;go_wp2_with (refine Q0o rfl _ _ 9 rfl Tryz.Z8p (u:=.string ⟨#[111,114]⟩) (g:=gg) (k:=k * 3 + 0) rfl rfl rfl rfl HGG7.out (by rw [Q1d Q0u]; omega) ?_; intro w8 hb8 hl8 ho8; refine halted ?_)
            have hbs:Blk w8 gg 114 (Q1c enc3 t.gates.length (gD t mg (k + 1))):=by
             have h:=hb8;rw [X0q (gD t mg k) (gD t mg (k + 1)) (r:=0) hlt (by decide) (Y3c t mg k 0 _ (by rw [Z0v HNM.out,HNM.out]; rfl)) (fun j hj=>X8q t mg k j hj)] at h
             exact h
            have HBS:=Lib.hid hbs;have HE8:Hid (Ext wq w8):=Lib.hid (Below.trans (HBEL.out.trans HX7.out) (hl8 wq.heap.size (by omega)))
            have HS8:Hid (w6.heap.size <= w8.heap.size):=Lib.hid (Nat.le_trans hsz (Nat.le_trans HX7.out.size (hl8 0 (Nat.zero_le _)).size));have HO8:Hid (∀ b,b < w6.heap.size -> b ≠ gg -> w8.heap[b]? = w6.heap[b]?):=Lib.hid (fun b hb hne=>(ho8 b hne).trans ((HX7.out.block b (Nat.lt_of_lt_of_le hb hsz)).trans (HOTH.out b hb hne)));clear hb8 hl8 ho8 hbs s0 s1 s2 s3;unfold Q2t;go_wp2;go_roundw
            case rel=>exact ⟨k + 1,by omega,by go_num,HBS.out,HE8.out,HS8.out,HO8.out⟩
            case measure=>simp [intOf]; omega
          . have hb1:=Q4d Z4f hk1
            by_cases hk2:nm = sOr
            . subst hk2
              clear hb1;unfold sOr at s0;go_wp2_with (refine Q0o rfl _ _ 9 rfl Tryz.Z8p (u:=.string ⟨#[97,110,100]⟩) (g:=gg) (k:=k * 3 + 0) rfl rfl rfl rfl HGG7.out (by rw [Q1d Q0u]; omega) ?_; intro w8 hb8 hl8 ho8; refine halted ?_)
              have hbs:Blk w8 gg 114 (Q1c enc3 t.gates.length (gD t mg (k + 1))):=by
               have h:=hb8;rw [X0q (gD t mg k) (gD t mg (k + 1)) (r:=0) hlt (by decide) (Y3c t mg k 0 _ (by rw [Z5g HNM.out,HNM.out]; rfl)) (fun j hj=>X8q t mg k j hj)] at h
               exact h
              have HBS:=Lib.hid hbs;have HE8:Hid (Ext wq w8):=Lib.hid (Below.trans (HBEL.out.trans HX7.out) (hl8 wq.heap.size (by omega)))
              have HS8:Hid (w6.heap.size <= w8.heap.size):=Lib.hid (Nat.le_trans hsz (Nat.le_trans HX7.out.size (hl8 0 (Nat.zero_le _)).size));have HO8:Hid (∀ b,b < w6.heap.size -> b ≠ gg -> w8.heap[b]? = w6.heap[b]?):=Lib.hid (fun b hb hne=>(ho8 b hne).trans ((HX7.out.block b (Nat.lt_of_lt_of_le hb hsz)).trans (HOTH.out b hb hne)));clear hb8 hl8 ho8 hbs s0 s1 s2 s3;unfold Q2t;go_wp2;go_roundw
              case rel=>exact ⟨k + 1,by omega,by go_num,HBS.out,HE8.out,HS8.out,HO8.out⟩
              case measure=>simp [intOf]; omega
            . have hb2:=Q4d Z6l hk2
              have HK1:=Lib.hid hk1;have HK2:=Lib.hid hk2;have hw1:IntKind.i64.wrap ((ml.length:Int) + 1) = (ml.length:Int) + 1:=wrap_in (by omega) (by omega)
              have hw2:IntKind.i64.wrap ((ml.length:Int) + 1 - nd) = (ml.length:Int) + 1 - nd:=wrap_in (by omega) (by omega)
              clear hk1 hk2;go_wp2_with (refine Q0o rfl _ _ 3 rfl Tryz.Z9d (u:=.int .i64 ((ml.length:Int) + 1 - nd)) (g:=gg) (k:=k * 3 + 1) rfl rfl rfl rfl HGG7.out (by rw [Q1d Q0u]; omega) ?_; intro w8 hb8 hl8 ho8; refine halted ?_)
              have hbs:Blk w8 gg 114 (Q1c enc3 t.gates.length (gD t mg (k + 1))):=by
               have h:=hb8;rw [X0q (gD t mg k) (gD t mg (k + 1)) (r:=1) hlt (by decide) (Y3c t mg k 1 _ (by rw [Y5q (by rw [HNM.out]; exact HK1.out) (by rw [HNM.out]; exact HK2.out),HML.out,HND.out]; rfl)) (fun j hj=>X8q t mg k j hj)] at h
               exact h
              have HBS:=Lib.hid hbs;have HE8:Hid (Ext wq w8):=Lib.hid (Below.trans (HBEL.out.trans HX7.out) (hl8 wq.heap.size (by omega)))
              have HS8:Hid (w6.heap.size <= w8.heap.size):=Lib.hid (Nat.le_trans hsz (Nat.le_trans HX7.out.size (hl8 0 (Nat.zero_le _)).size));have HO8:Hid (∀ b,b < w6.heap.size -> b ≠ gg -> w8.heap[b]? = w6.heap[b]?):=Lib.hid (fun b hb hne=>(ho8 b hne).trans ((HX7.out.block b (Nat.lt_of_lt_of_le hb hsz)).trans (HOTH.out b hb hne)));clear hb8 hl8 ho8 hbs s0 s1 s2 s3;unfold Q2t;go_wp2;go_roundw
              case rel=>exact ⟨k + 1,by omega,by go_num,HBS.out,HE8.out,HS8.out,HO8.out⟩
              case measure=>simp [intOf]; omega
        . have e:k = t.gates.length:=by omega
          subst e;obtain ⟨w7,hw7⟩:∃ x,wr = x:=⟨_,rfl⟩;rw [hw7] at hgg hbel hsz hoth ⊢;clear hw7;have HGG7:=Lib.hid hgg;have HX7:Hid (Ext w w7):=Lib.hid (HX1.out.trans hbel);have HBB7:=Lib.hid (Q2k HBB6.out (Q2b HBB6.out HBG6.out (by decide)) hoth)
          have HBC7:=Lib.hid (Q2k HBC6.out (Q2b HBC6.out HBG6.out (by decide)) hoth)
          have HB7:=Lib.hid (Q2k HB6.out (Q2b HB6.out HBG6.out (by decide)) hoth)
          have HBR7:=Lib.hid (Q2k HBR6.out (Q2b HBR6.out HBG6.out (by decide)) hoth)
          have HM7:Hid (∀ i,i < t.causes.length -> Q0s w7 0 3 (.int .i64) (mc i) (Q0f t.causes i)):=Lib.hid (fun i hi=>Q5p (HM6.out i hi) HBG6.out (by decide) hoth)
          have HI7:Hid (∀ i,i < t.gates.length -> Q0s w7 0 3 (.int .i64) (mg i) (Q0m t.gates i)):=Lib.hid (fun i hi=>Q5p (HI6.out i hi) HBG6.out (by decide) hoth)
          clear hgg hbel hsz hoth;go_wp2_with (first | (refine Q0i rfl _ 33 rfl Tryz.Q2n Tryz.Q0v rfl HB7.out rfl ?_) | (refine Q0c rfl _ _ 33 rfl Tryz.Q0v rfl rfl HBR7.out rfl rfl ?_ ?_; (focus (intro u hu; simp only [List.mem_cons,List.not_mem_nil,or_false] at hu; rcases hu with rfl | rfl | rfl <;> rfl)); intro w8 hb8 hl8 ho8))
          have e1:=Q2b HBB7.out HBR7.out (by decide)
          have e2:=Q2b HBC7.out HBR7.out (by decide)
          have e3:=Q2b HGG7.out HBR7.out (by decide)
          have f1:=HBB7.out.only e1 ho8;have f2:=HBC7.out.only e2 ho8;have f3:=HGG7.out.only e3 ho8;have HM8:∀ i,i < t.causes.length -> Q0e w8 (mc i) (Q0f t.causes i):=fun i hi=>(Q3j (HM7.out i hi) HBR7.out (by decide) ho8).ints (HT.out.causes.short hi).2
          have HI8:∀ i,i < t.gates.length -> Q0e w8 (mg i) (Q0m t.gates i):=fun i hi=>(Q3j (HI7.out i hi) HBR7.out (by decide) ho8).ints (HT.out.gates.short hi).2
          refine bodyPost_ret (Q0q Tryz.results46 rfl hb8 Tryz.Q2n Tryz.Q0v rfl) rfl ?_;refine ⟨_,by rw [HE0.out]; rfl,?_,Below.trans HX7.out (hl8 _ (by omega))⟩
          rw [HDT.out];refine ⟨_,_,_,rfl,⟨?_,?_,?_⟩⟩
          . have hle:(t.basics.map Y7x).length = t.basics.length:=List.length_map _
            have:=X0u (l:=t.basics.map Y7x) f1 (by omega) (by omega) fun i hi=>by
             rw [hle] at hi;obtain ⟨q1,q2⟩:=Y7i hi;rw [q1,q2];exact ⟨by unfold bD; rw [if_pos hi],HT.out.basics.short hi⟩
            rw [hle] at this;exact this
          . exact X0p f2 (Nat.le_refl _) HFIT.out.nc fun i hi=>⟨_,rfl,HM8 i hi,(HT.out.causes.short hi).1⟩
          . have hle:(t.gates.map X3o).length = t.gates.length:=List.length_map _
            have:=X2b (l:=t.gates.map X3o) f3 (by omega) (by omega) fun i hi=>by
             rw [hle] at hi;obtain ⟨q1,q2,q3⟩:=Y9b hi;rw [q1,q2,q3];exact ⟨_,by unfold gD; rw [if_pos hi],HI8 i hi,Z0z (HT.out.gates.short hi).1⟩
            rw [hle] at this;exact this
  . have hne:(E != 0) = true:=by simp [hE0]
    have HZT:Hid (Y7q t = ⟨[],[],[]⟩):=Lib.hid (by unfold Y7q; rw [if_neg (by rw [HFIN.out]; exact hE0)])
    go_wp2_with (refine Q0c rfl _ _ 33 rfl Tryz.Q0v rfl rfl hbr rfl rfl ?_ ?_; (focus (intro u hu; simp only [List.mem_cons,List.not_mem_nil,or_false] at hu; rcases hu with rfl | rfl | rfl <;> rfl)); intro w8 hb8 hl8 ho8)
    refine bodyPost_ret (Q0q Tryz.results46 rfl hb8 Tryz.Q2n Tryz.Q0v rfl) rfl ?_;refine ⟨_,by rw [HFIN.out]; rfl,?_,Below.trans HX1.out (hl8 _ (by omega))⟩
    rw [HZT.out];exact Q2v _
end Go.Proofs
namespace Go.Proofs
open Go.RowKit Go.Tw Go.Flow
theorem Tryz.X9j:(Tryz.prog.info? 9).map (fun i=>(i.zero,i.size,i.bytes)) = some (some (.string emp),1,16):=by kernel_rfl
def Q3l (x:Int):ByteArray:=⟨(Lib.decDigits x.toNat).toArray⟩
theorem Z1g (w:World) (x:Int) (h0:0 <= x) (h1:x < 100):Calls Tryz.prog 131 #[.int .i64 x] w fun e w'=>e = .returned (.string (Q3l x)) /\ w' = w:=by
 obtain ⟨n,rfl⟩:∃ n:Nat,x = n:=⟨x.toNat,by omega⟩
 exact Tryz.strconv_Itoa_small n (by omega) w
theorem Z0u (l:List Int) {k:Nat} (hk:k < l.length):(l.map Q3l).take k ++ [Q3l (ix l k)] = (l.map Q3l).take (k + 1):=by
 rw [List.take_succ_eq_append_getElem (by simpa using hk),Q6t hk]
 simp
theorem Y3t (w:World) (v:Value) (l:List Int) (hv:Q0e w v l) (hle:l.length <= 4096) (hm:∀ x ∈ l,0 <= x /\ x < 100) :
    Calls Tryz.prog 130 #[v,.func (.func 131) #[] #[]] w fun e w'=>∃ x,e = .returned x /\ Q0s w' w.heap.size 9 .string x (l.map Q3l) /\ Ext w w':=by
 obtain ⟨i0,hi,hz0,hz1,hz2⟩:=info_parts Tryz.X9j;obtain ⟨A,cap,rfl,hl,hcap,hc⟩:=hv.opened;have HC:=Lib.hid hc;have HM:=Lib.hid hm;clear hv hc hm;go_enter Tryz.func130,Tryz.ntmps130;go_wp2
 go_loopw [5,10] (fun o i wr=>∃ (k:Nat),k <= l.length /\ i = .int .i64 k /\ Q0s wr w.heap.size 9 .string o ((l.map Q3l).take k) /\ Ext w wr) (fun _ i _=>l.length - (intOf i).toNat)
 case atStart=>exact ⟨0,Nat.zero_le _,rfl,Q0s.nil _ _ _ _,Ext.refl _⟩
 case round =>
  obtain ⟨k,hk,rfl,hown,hx⟩:=hrel;have hlen:((l.map Q3l).take k).length = k:=by rw [List.length_take,List.length_map]; omega
  by_cases hlt:k < l.length
  . obtain ⟨b,off,rfl,hcell⟩:=HC.out k hlt
    have HTK:=Lib.hid (Z0u l hlt);have hmm:=HM.out (ix l k) (by rw [Q6t hlt]; exact List.getElem_mem hlt)
    obtain ⟨s,hs⟩:∃ s,ix l k = s:=⟨_,rfl⟩;rw [hs] at hcell hmm HTK;have HMM:=Lib.hid hmm;replace hcell:=hx.cell hcell;have hll:((l.map Q3l).take k).length <= 4096:=by omega
    obtain ⟨is,his⟩:∃ x,Q3l s = x:=⟨_,rfl⟩;rw [his] at HTK;have HIT:Hid (∀ w,Calls Tryz.prog 131 #[.int .i64 s] w fun e w'=>e = .returned (.string is) /\ w' = w):=Lib.hid (fun w=>by rw [<- his]; exact Z1g w s HMM.out.1 HMM.out.2)
    clear hs hmm hlen his;go_wp2_with (first | (go_at_call 131; refine (HIT.out _).mono ?_; rintro e w9 ⟨rfl,rfl⟩) | (at_builtin; refine wpList_append_own _ rfl _ _ 72 rfl (w.heap.size) 9 i0 (.string emp) 1 16 Tryz.underlying72 hi hz0 hz1 hz2 rfl (by decide) _ _ _ rfl (World.ownsRow.alloc hown _) ⟨w9.heap.size,0,none⟩ 1 1 [.string is] rfl rfl ?_ ?_ ?_ ?_ ?_ ?_; exact Q5k _ _ _; (focus (simp [Value.oneCell'])); (focus (unfold maxLen; omega)); (focus omega); (focus (have:=hx.size; simp at this ⊢; omega)); intro v' w1 hown' hgrow _))
    have hx':=Q3u hx hown (Nat.le_refl _) hgrow;go_wp2;go_roundw
    case rel=>exact ⟨k + 1,by omega,by go_num,by rw [<- HTK.out]; exact Q0s.snoc hown',hx'⟩
    case measure=>simp [intOf]; omega
  . have HE:Hid ((l.map Q3l).take k = l.map Q3l):=Lib.hid (by rw [List.take_of_length_le (by rw [List.length_map]; omega)])
    rw [HE.out] at hown;have HOWN:=Lib.hid hown;clear hown hlen;go_wp2;go_ret;exact ⟨_,rfl,HOWN.out,hx⟩
end Go.Proofs
namespace Go.Proofs
open Go.RowKit Go.Tw Go.Flow
def X1p (xs:List ByteArray) (sep:ByteArray):ByteArray:=⟨(Lib.join (xs.map (·.data.toList)) sep.data.toList).toArray⟩
def spS:ByteArray:=⟨#[32]⟩
def nlS:ByteArray:=⟨#[10]⟩
def Q6f (a b:ByteArray) (l:List Int):List ByteArray:=a :: b :: l.map Q3l
def lineS (a b:ByteArray) (l:List Int):ByteArray:=X1p (Q6f a b l) spS ++ nlS
theorem Y3k {B:Nat}:∀ {xs:List ByteArray},(∀ x ∈ xs,x.size <= B) -> Lib.lens (xs.map (·.data.toList)) <= B * xs.length
 | [],_=>by simp [Lib.lens]
 | x :: xs,h=>by
   have h1:=Y3k (xs:=xs) fun y hy=>h y (List.mem_cons_of_mem _ hy);have h2:=h x (List.mem_cons_self ..);have h3:x.data.toList.length = x.size:=Array.length_toList;simp only [Lib.lens,List.map_cons,List.sum_cons,List.length_cons,Nat.mul_succ] at h1 ⊢;omega
theorem Q9z {x:Int} (h0:0 <= x) (h1:x < 100):(Q3l x).size <= 2:=by
 have h:(Q3l x).size = (Lib.decDigits x.toNat).length:=by simp [Q3l,ByteArray.size]
 rw [h,Lib.decDigits_length];have h2:x.toNat < 100:=by omega
 rw [Lib.nDigits]
 split
 . omega
 . rw [Lib.nDigits,dif_pos (by omega)]
   omega
theorem Y5e (w:World) (base:Nat) (v:Value) (xs:List ByteArray) (sep:ByteArray) (hv:Q0s w base 9 .string v xs) (hl:xs.length <= 4096) (hne:xs ≠ []) (hs:∀ x ∈ xs,x.size <= 5000000) (hsep:sep.size <= 16) :
    Calls Tryz.prog 80 #[v,.string sep] w fun e w'=>e = .returned (.string (X1p xs sep)) /\ Ext w w':=by
 rcases hv.cells2 with ⟨_,h⟩ | ⟨g,c,rfl,hcap,hb,hg,hc⟩
 . exact absurd h hne
 . refine Tryz.strings_Join g 0 c xs sep w (fun j x hx=>?_) hg (by omega) hcap ?_
   . obtain ⟨hj,rfl⟩:=List.getElem?_eq_some_iff.1 hx
     exact hc j hj
   . cases xs with
     | nil=>exact absurd rfl hne
     | cons x r =>
       have h1:=Y3k hs;have h2:sep.data.toList.length = sep.size:=Array.length_toList;have h4:sep.size * r.length <= 16 * 4096:=Nat.mul_le_mul hsep (by rw [List.length_cons] at hl; omega)
       have h5:5000000 * (x :: r).length <= 5000000 * 4096:=Nat.mul_le_mul_left _ hl;rw [List.map_cons,Lib.join_length,List.length_map,h2];rw [List.map_cons] at h1;omega
theorem Q9l {xs:List ByteArray} {sep:ByteArray} {B:Nat} (hl:xs.length <= 4096) (hs:∀ x ∈ xs,x.size <= B) (hsep:sep.size <= 16):(X1p xs sep).size <= 65536 + B * 4096:=by
 have h0:(X1p xs sep).size = (Lib.join (xs.map (·.data.toList)) sep.data.toList).length:=by simp [X1p,ByteArray.size]
 rw [h0];cases xs with
 | nil=>simp [Lib.join_nil]
 | cons x r =>
   have h1:=Y3k hs;have h2:sep.data.toList.length = sep.size:=Array.length_toList;have h4:sep.size * r.length <= 16 * 4096:=Nat.mul_le_mul hsep (by rw [List.length_cons] at hl; omega)
   have h5:B * (x :: r).length <= B * 4096:=Nat.mul_le_mul_left _ hl;rw [List.map_cons,Lib.join_length,List.length_map,h2];rw [List.map_cons] at h1;omega
theorem Y7k {a b:ByteArray} {l:List Int} (ha:a.size <= 1000) (hb:b.size <= 1000) (hm:∀ x ∈ l,0 <= x /\ x < 100):∀ x ∈ Q6f a b l,x.size <= 1000:=by
 intro x hx
 rcases List.mem_cons.1 hx with rfl | hx
 . exact ha
 . rcases List.mem_cons.1 hx with rfl | hx
   . exact hb
   . obtain ⟨y,hy,rfl⟩:=List.mem_map.1 hx
     have h:=hm y hy;have:=Q9z h.1 h.2;omega
theorem Q8a {a b:ByteArray} {l:List Int} (hl:l.length <= 1000) (ha:a.size <= 1000) (hb:b.size <= 1000) (hm:∀ x ∈ l,0 <= x /\ x < 100):(lineS a b l).size <= 5000000:=by
 have h1:=Q9l (xs:=Q6f a b l) (sep:=spS) (by simp [Q6f]; omega) (Y7k ha hb hm) (by decide)
 have h2:(lineS a b l).size = (X1p (Q6f a b l) spS).size + 1:=by unfold lineS; rw [ByteArray.size_append]; rfl
 omega
theorem Z2z {w:World} {T:TypeId} {l:List ByteArray} (hl:l.length <= 1000):Q0s (w.alloc (.cells (l.map Value.string).toArray T)) w.heap.size T .string (.slice (some ⟨w.heap.size,0,none⟩) l.length l.length) l :=
 ⟨by simp,.inr ⟨w.heap.size,l.length,(l.map Value.string).toArray,rfl,Nat.le_refl _,heap_alloc_new w _,Nat.le_refl _,by unfold maxLen; omega,by simp,by rw [Nat.mul_one,List.take_of_length_le (by simp)]⟩⟩
theorem Y0d (w:World) (a b:ByteArray) (v:Value) (l:List Int) (hv:Q0e w v l) (hle:l.length <= 1000) (hne:l ≠ []) (hm:∀ x ∈ l,0 <= x /\ x < 100) (ha:a.size <= 1000) (hb:b.size <= 1000) :
    Calls Tryz.prog 82 #[.string a,.string b,v] w fun e w'=>e = .returned (.string (lineS a b l)) /\ Ext w w':=by
 obtain ⟨i0,hi,hz0,hz1,hz2⟩:=info_parts Tryz.X9j;obtain ⟨A,cap,rfl,hl,hcap,hc⟩:=hv.opened;have HV:=Lib.hid (hv.ext (Ext.box w (.cells #[.string a,.string b] 9)));have HM:=Lib.hid hm;have HN:=Lib.hid hne;clear hv hc hm hne;go_enter Tryz.func82,Tryz.ntmps82;go_wp2_with fail;refine (Y3t _ _ l HV.out (by omega) HM.out).mono ?_
 rintro e w3 ⟨u,rfl,hu,hx3⟩;have hown:Q0s w3 w.heap.size 9 .string (.slice (some ⟨w.heap.size,0,none⟩) 2 2) [a,b]:=(Z2z (w:=w) (l:=[a,b]) (by simp)).below hx3
 have HX3:=Lib.hid ((Ext.box w (.cells #[.string a,.string b] 9)).trans hx3)
 rcases hu.cells2 with ⟨_,h⟩ | ⟨g,c,rfl,hcap2,hbb,hg,hc⟩
 . exact absurd (List.map_eq_nil_iff.1 h) HN.out
 . have hlm:(l.map Q3l).length = l.length:=List.length_map _
   have HC:=Lib.hid hc;have hlen2:((l.map Q3l).map Value.string).length = l.length * 1:=by simp
   have HL2:=Lib.hid hlen2;have HSRC:Hid (∀ j u,((l.map Q3l).map Value.string)[j]? = some u -> w3.cell? ((⟨g,0,none⟩:Addr).add j) = some u):=by
    exact (by
     intro j u hj;rw [List.getElem?_map] at hj;obtain ⟨y,hy,rfl⟩:=Option.map_eq_some_iff.1 hj;obtain ⟨hjl,rfl⟩:=List.getElem?_eq_some_iff.1 hy;rw [addr_add];exact HC.out j hjl:∀ j u,((l.map Q3l).map Value.string)[j]? = some u -> w3.cell? ((⟨g,0,none⟩:Addr).add j) = some u)
   have HONE:Hid (∀ u ∈ (l.map Q3l).map Value.string,u.oneCell' = true):=by
    exact (by intro u hu; obtain ⟨y,_,rfl⟩:=List.mem_map.1 hu; rfl:∀ u ∈ (l.map Q3l).map Value.string,u.oneCell' = true)
   have hws:w.heap.size <= w3.heap.size:=HX3.out.size;clear hc hlen2 hu;go_wp2_with (at_builtin; refine wpList_append_own _ rfl _ _ 72 rfl (w.heap.size) 9 i0 (.string emp) 1 16 Tryz.underlying72 hi hz0 hz1 hz2 rfl (by decide) _ _ _ rfl hown ⟨g,0,none⟩ l.length c ((l.map Q3l).map Value.string) rfl HL2.out HSRC.out HONE.out ?_ ?_ ?_ ?_; (focus (unfold maxLen; simp; omega)); (focus (simp; omega)); (focus exact hws); intro v' w4 hown' hgrow _; refine halted ?_)
   have hx4:Ext w w4:=Below.trans HX3.out (below_grown hown hgrow (Nat.le_refl _) hws);have hl3:(Q6f a b l).length = l.length + 2:=by simp [Q6f]
   have hown2:Q0s w4 w.heap.size 9 .string v' (Q6f a b l):=by
    unfold Q0s;rw [hl3,show l.length + 2 = 2 + l.length from Nat.add_comm _ _]
    exact hown'
   have hsz:∀ x ∈ Q6f a b l,x.size <= 5000000:=by
    intro x hx
    rcases List.mem_cons.1 hx with rfl | hx
    . omega
    . rcases List.mem_cons.1 hx with rfl | hx
      . omega
      . obtain ⟨y,hy,rfl⟩:=List.mem_map.1 hx
        have h:=HM.out y hy;have:=Q9z h.1 h.2;omega
   have HJ:Hid (Calls Tryz.prog 80 #[v',.string ⟨#[32]⟩] w4 fun e w'=>e = .returned (.string (X1p (Q6f a b l) spS)) /\ Ext w4 w'):=by
    exact (Y5e w4 w.heap.size v' (Q6f a b l) spS hown2 (by omega) (by simp [Q6f]) hsz (by decide):Calls Tryz.prog 80 #[v',.string ⟨#[32]⟩] w4 fun e w'=>e = .returned (.string (X1p (Q6f a b l) spS)) /\ Ext w4 w')
   have HX4:=Lib.hid hx4;have hjs:=Q9l (xs:=Q6f a b l) (sep:=spS) (B:=5000000) (by omega) hsz (by decide)
   have HLN:Hid (lineS a b l = X1p (Q6f a b l) spS ++ nlS):=Lib.hid (rfl);clear hown' hgrow hx4 hl3 hown2 hsz hown;unfold Q2t;go_wp2_with fail;refine HJ.out.mono ?_;rintro e w5 ⟨rfl,hx5⟩;generalize X1p (Q6f a b l) spS = js at HLN hjs ⊢;have hjs2:js.size + 1 <= 9223372036854775807:=by omega
   have hjs3:js.size < 9223372036854775807:=by omega
   go_wp2;go_ret;exact ⟨by rw [HLN.out]; rfl,HX4.out.trans hx5⟩
end Go.Proofs
