/- Contract: the nodes of a valid tree. -/
import Derived.Test.YtghcnlbkghaaeaaDoorPv06
set_option maxRecDepth 1000000
set_option maxHeartbeats 64000000
set_option linter.unusedVariables false
set_option linter.unusedSimpArgs false
set_option linter.constructorNameAsVariable false
namespace Go.Proofs
open Go.RowKit Go.Tw Go.Flow
def Q0p (t:Tree) (k:Nat):List Int:=(List.range k).map fun j=>(t.maskAt j:Int)
theorem Q6f (t:Tree) (k:Nat):Q0p t (k + 1) = Q0p t k ++ [(t.maskAt k:Int)]:=by unfold Q0p; rw [List.range_succ,List.map_append]; rfl
theorem Q3f (t:Tree) (k:Nat):(Q0p t k).length = k:=by simp [Q0p]
def X7r (t:Tree) (k:Nat):List Int:=(List.range k).map t.chanceAt
theorem X1b (t:Tree) (k i:Nat):ix (X7r t (k + 1)) i = if i = k then t.chanceAt k else ix (X7r t k) i:=by
 unfold ix X7r;simp only [List.getD_eq_getElem?_getD,List.getElem?_map,List.getElem?_range']
 by_cases h:i = k
 . subst h; simp
 . rw [if_neg h]
   by_cases h2:i < k
   . rw [List.getElem?_range (by omega),List.getElem?_range h2]
   . rw [List.getElem?_eq_none (by simp; omega),List.getElem?_eq_none (by simp; omega)]
theorem Y1u {α:Type} {enc:α -> Value} {w:World} {g:Nat} {x:α} (h:w.cell? ⟨g,0,none⟩ = some (enc x)):∀ j (hj:j < [x].length),w.cell? ((⟨g,0,none⟩:Addr).add j) = some (enc [x][j]):=fun j hj=>by
 have e:j = 0:=by simpa using hj
 subst e;rw [addr_add]; exact h
def Q4u:Value:=.slice none 0 0
theorem Tryd.X4a (w:World):(sizeOf 32).run Tryd.prog w = .ok 1 w:=by kernel_rfl
theorem Tryd.Q2n (w:World):(isAgg 131).run Tryd.prog w = .ok true w:=by kernel_rfl
theorem Tryd.Q1i (w:World):(sizeOf 131).run Tryd.prog w = .ok 16 w:=by kernel_rfl
theorem Q7y (w:World) (v:Value) (t:Tree) (hv:Valid t) (ht:IsTree w v t) :
    Calls Tryd.prog 65 #[v] w fun e w'=>∃ fv gv,e = .returned (noV t t.chances fv gv) /\ X6f w' fv gv t /\ Ext w w':=by
 obtain ⟨i0,hi,hz0,hz1,hz2⟩:=info_parts Tryd.info3;obtain ⟨a,b,d,rfl,h3⟩:=ht;obtain ⟨A,capa,rfl,hl1,hcap1,hc1⟩:=h3.basics.opened;obtain ⟨B,capb,rfl,hl2,hcap2,hc2⟩:=h3.causes.opened;have HT:=Lib.hid h3;have HC1:=Lib.hid hc1;have HC2:=Lib.hid hc2;have HV:=Lib.hid hv;have hsz:=hv.size;have hnb:t.basics.length <= 12:=by unfold Tree.size at hsz; omega
 obtain ⟨G,capg,rfl,hlg,hcapg,_⟩:=h3.gates.opened;have k0:=Blk.made w 71 #[.slice A t.basics.length capa,.slice B t.causes.length capb,.slice G t.gates.length capg];have hx0:=Ext.box w (.cells #[.slice A t.basics.length capa,.slice B t.causes.length capb,.slice G t.gates.length capg] 71);clear h3 hc1 hc2 hv;go_enter Tryd.func65,Tryd.ntmps65;go_wp2;obtain ⟨W,hW⟩:∃ W,((w.alloc (.cells #[.slice A t.basics.length capa,.slice B t.causes.length capb,.slice G t.gates.length capg] 71)).alloc (.cells (outA 0 Q4u [] 0 Q4u) 131)).alloc (.cells (outA 0 Q4u [] t.basics.length Q4u) 131) = W:=⟨_,rfl⟩;have r0:=Blk.made (w.alloc (.cells #[.slice A t.basics.length capa,.slice B t.causes.length capb,.slice G t.gates.length capg] 71)) 131 (outA 0 Q4u [] 0 Q4u);have hx1:=Ext.box (w.alloc (.cells #[.slice A t.basics.length capa,.slice B t.causes.length capb,.slice G t.gates.length capg] 71)) (.cells (outA 0 Q4u [] 0 Q4u) 131);have o0:=Blk.made ((w.alloc (.cells #[.slice A t.basics.length capa,.slice B t.causes.length capb,.slice G t.gates.length capg] 71)).alloc (.cells (outA 0 Q4u [] 0 Q4u) 131)) 131 (outA 0 Q4u [] t.basics.length Q4u);have hx2:=Ext.box ((w.alloc (.cells #[.slice A t.basics.length capa,.slice B t.causes.length capb,.slice G t.gates.length capg] 71)).alloc (.cells (outA 0 Q4u [] 0 Q4u) 131)) (.cells (outA 0 Q4u [] t.basics.length Q4u) 131);have hws:W.heap.size = w.heap.size + 1 + 1 + 1:=by rw [<- hW]; simp
 have es1:(w.alloc (.cells #[.slice A t.basics.length capa,.slice B t.causes.length capb,.slice G t.gates.length capg] 71)).heap.size = w.heap.size + 1:=by simp
 have es2:((w.alloc (.cells #[.slice A t.basics.length capa,.slice B t.causes.length capb,.slice G t.gates.length capg] 71)).alloc (.cells (outA 0 Q4u [] 0 Q4u) 131)).heap.size = w.heap.size + 1 + 1:=by simp
 rw [es1] at r0;rw [es2] at o0;replace k0:=(k0.ext hx1).ext hx2;replace r0:=r0.ext hx2;have hxW:=(hx0.trans hx1).trans hx2;rw [hW] at k0 r0 o0 hxW;change Code.wp _ _ _ _ (((w.alloc (.cells #[.slice A t.basics.length capa,.slice B t.causes.length capb,.slice G t.gates.length capg] 71)).alloc (.cells (outA 0 Q4u [] 0 Q4u) 131)).alloc (.cells (outA 0 Q4u [] t.basics.length Q4u) 131));rw [hW];obtain ⟨O,hO⟩:∃ O,w.heap.size + 1 + 1 = O:=⟨_,rfl⟩;obtain ⟨R,hR⟩:∃ R,w.heap.size + 1 = R:=⟨_,rfl⟩;rw [hO] at o0 hws ⊢;rw [hR] at r0 ⊢;have hRO:R + 1 = O:=by omega
 have hwR:w.heap.size + 1 = R:=hR;have K0:=Lib.hid k0;have R0:=Lib.hid r0;have HXW:=Lib.hid hxW;clear hW hx0 hx1 hx2 es1 es2 hO hR k0 r0 hxW
 go_loopw [16] (fun i wr=>∃ (k:Nat) (fv:Value),k <= t.basics.length /\ i = .int .i64 k /\ Q0f wr (O + 1) 3 (Value.int .i64) fv (Q0p t k) /\ Blk wr O 131 (outA 0 fv (X7r t k) t.basics.length Q4u) /\ Below O W wr) (fun i _=>t.basics.length - (intOf i).toNat)
 case atStart=>exact ⟨0,Q4u,Nat.zero_le _,rfl,Q0f.nil _ _ _ _,o0,Below.refl _ _⟩
 case round =>
  obtain ⟨k,fv,hk,rfl,hown,hblk,hbel⟩:=hrel;have t0:=(K0.out.below hbel (by omega)).cell 0
  have t1:=(K0.out.below hbel (by omega)).cell 1
  have t2:=(K0.out.below hbel (by omega)).cell 2
  simp only [Go.Tw.gA,Go.Tw.gB,Go.Tw.gC] at t0 t1 t2
  by_cases hlt:k < t.basics.length
  . obtain ⟨b1,off,rfl,hb1,e0,e1,_⟩:=HC1.out k hlt
    replace e0:=(hbel.cell (p:=⟨b1,off + k * 2,none⟩) (by show b1 < O; omega)).trans (HXW.out.cell e0)
    replace e1:=(hbel.cell (p:=⟨b1,off + k * 2 + 1,none⟩) (by show b1 < O; omega)).trans (HXW.out.cell e1)
    have hwrs:O + 1 <= wr.heap.size:=by have:=hbel.size; omega
    have HNE:=Lib.hid hown.new_ne;have hm:t.maskAt k = 2 ^ k:=by unfold Tree.maskAt; rw [if_pos hlt]
    have hch:t.chanceAt k = bChance t.basics k:=by unfold Tree.chanceAt; rw [if_pos hlt]
    have HMS:=Lib.hid (Q6f t k);have HCS:=Lib.hid (fun i=>X1b t k i);have hml:=Q3f t k;have p2:IntKind.i64.wrap ((2:Int) ^ k) = 2 ^ k:=by
     have h1:(2:Nat) ^ k < 2 ^ 62:=Nat.pow_lt_pow_right (by omega) (by omega)
     have h2:((2 ^ k:Nat):Int) = 2 ^ k:=by simp
     rw [<- h2];exact Q2x _ (by omega) (by exact_mod_cast h1)
    rw [hm] at HMS;rw [hch] at HCS;clear hm hch
    go_light
    go_wp2;obtain ⟨W2,hW2⟩:∃ W2,wr.alloc (.cells #[.string (bName t.basics k),.int .i64 (bChance t.basics k)] 134) = W2:=⟨_,rfl⟩;have hx2:Ext wr W2:=by rw [<- hW2]; exact Ext.box _ _
    have f1:W2.cell? ⟨wr.heap.size,1,none⟩ = some (.int .i64 (bChance t.basics k)):=by rw [<- hW2]; exact Q0d _ _ _ 1
    have hs2:W2.heap.size = wr.heap.size + 1:=by rw [<- hW2]; simp
    rw [hW2];have HOWN:=Lib.hid (hown.below hx2);have HBLK:=Lib.hid (hblk.ext hx2);have HF1:=Lib.hid f1;have hd2:=(Ext.refl W2).drew;clear hW2 hown hblk t0 t1 t2 e0 e1 f1;refine Flow.region [.p,.p,.w,.p,.p,.w,.last,.last,.last,.last] [0,1,2,3,4,5,6,7,8,9] [[],[0],[0,1],[],[3],[3,4],[0,1,2,3,4,5],[0,1,2,3,4,5,6],[0,1,2,3,4,5,6,7],[0,1,2,3,4,5,6,7,8]] [6,7,8,9]
     [.c 0 (.pointer (some ⟨O,0,none⟩)),.c 1 (.pointer (some ⟨O,1,none⟩)),.c 2 (fv),.c 3 (.int .i64 k),.c 4 (.int .i64 ((2 ^ k:Nat):Int)),⟨fun v wz=>(fun v w'=>∃ g,v 5 = .slice (some ⟨g,0,none⟩) 1 1 /\ w'.cell? ⟨g,0,none⟩ = some (.int .i64 ((2 ^ k:Nat):Int))) v wz,by rintro v a b hx ⟨g,h1,h2⟩; exact ⟨g,h1,hx.cell h2⟩⟩,.none,.none,.none,.none]
     [fun v w1 w'=>Q0f w' (O + 1) 3 (Value.int .i64) (v 6) (Q0p t (k + 1)) /\ Below (O + 1) w1 w' /\ w'.cell? ⟨wr.heap.size,1,none⟩ = some (.int .i64 (bChance t.basics k)),fun v w1 w'=>v 7 = .pointer (some ⟨O,0,none⟩) /\ Q0f w' (O + 1) 3 (Value.int .i64) (v 6) (Q0p t (k + 1)) /\ Below (O + 1) w1 w' /\ w'.cell? ⟨wr.heap.size,1,none⟩ = some (.int .i64 (bChance t.basics k)),fun v w1 w'=>v 8 = .pointer (some ⟨O,1,none⟩) /\ Q0f w' (O + 1) 3 (Value.int .i64) (v 6) (Q0p t (k + 1)) /\ Below (O + 1) w1 w' /\ w'.cell? ⟨wr.heap.size,1,none⟩ = some (.int .i64 (bChance t.basics k)),fun v w1 w'=>∃ x,Q0f w' (O + 1) 3 (Value.int .i64) x (Q0p t (k + 1)) /\ Blk w' O 131 (outA 0 x (X7r t k) t.basics.length Q4u) /\ Below O w1 w' /\ w'.cell? ⟨wr.heap.size,1,none⟩ = some (.int .i64 (bChance t.basics k))] (by kernel_rfl) rfl (by kernel_rfl) ⟨?g0,?g1,?g2,?g3,?g4,?g5,?g6,?g7,?g8,?g9,trivial⟩ ?post
    case g0 | g3=>
     intro v w1 hx;refine ⟨_,fun w=>?_,rfl⟩;go_simp
    case g1 | g4=>
     intro v w1 hx;(repeat intro (zq:v _ = _));refine ⟨_,fun w=>?_,rfl⟩;go_simp
    case g2=>
     intro v w1 hx;(repeat intro (zq:v _ = _));have n0:w1.cell? ⟨O,1,none⟩ = some fv:=(HBLK.out.ext (hd2.trans hx)).cell 1;intro K hK;go_simp;exact hK _ _ (Ext.refl _) rfl
    case g5=>
     intro v w1 hx;(repeat intro (zq:v _ = _));intro K hK;go_simp;exact hK _ _ (Ext.box _ _) ⟨_,rfl,Q0d _ _ _ 0⟩
    case g6=>
     intro v w1 hx (q0:v 0 = _) (q1:v 1 = _) (q2:v 2 = _) (q3:v 3 = _) (q4:v 4 = _) (q5:(fun v w'=>∃ g,v 5 = .slice (some ⟨g,0,none⟩) 1 1 /\ w'.cell? ⟨g,0,none⟩ = some (.int .i64 ((2 ^ k:Nat):Int))) v w1);intro wl hT;obtain rfl:wl = w1:=hT;intro bb hbb;intro K hK;obtain ⟨g,hg5,hc5⟩:=q5;have o1:bb.eval (.tmp 23) = fv:=by rw [hbb]; dsimp only; (try simp (discharger:=decide) only [eval_put_ne]); rw [Q0a (by simp only [size_put]; exact (by decide:23 < 79))]; exact q2
     have o2:bb.eval (.tmp 26) = .slice (some ⟨g,0,none⟩) 1 1:=by rw [hbb]; dsimp only; (try simp (discharger:=decide) only [eval_put_ne]); rw [Q0a (by simp only [size_put]; exact (by decide:26 < 79))]; exact hg5
     clear hbb;have hxx:=hd2.trans hx;have hwl:O + 1 <= wl.heap.size:=by have:=hxx.size; omega
     refine Q5y _ _ 32 rfl (O + 1) 3 i0 (.int .i64 0) 8 Tryd.underlying32 hi hz0 hz1 hz2 rfl (.int .i64) fv (Q0p t k) [((2 ^ k:Nat):Int)] o1 (HOWN.out.below hxx) ⟨g,0,none⟩ 1 o2 (Y1u hc5) (fun _=>rfl) (by rw [hml]; simp; omega) (by decide) hwl (fun v' w' hown hg=>?_)
     refine hK _ _ ⟨by rw [HMS.out]; exact hown,below_grown (HOWN.out.below hxx) hg (Nat.le_refl _) hwl,(Q4e hg (by have:=hxx.size; omega) HNE.out).trans (hxx.cell HF1.out)⟩
    case g7=>
     intro v w1 hx (q0:v 0 = _) (q1:v 1 = _) (q2:v 2 = _) (q3:v 3 = _) (q4:v 4 = _) _;intro wl hT;replace hT:(fun v w1 w'=>Q0f w' (O + 1) 3 (Value.int .i64) (v 6) (Q0p t (k + 1)) /\ Below (O + 1) w1 w' /\ w'.cell? ⟨wr.heap.size,1,none⟩ = some (.int .i64 (bChance t.basics k))) v w1 wl:=hT;intro bb hbb;subst hbb;intro K hK;go_simp;exact hK _ _ ⟨rfl,hT⟩
    case g8=>
     intro v w1 hx (q0:v 0 = _) (q1:v 1 = _) (q2:v 2 = _) (q3:v 3 = _) (q4:v 4 = _) _;intro wl hT;replace hT:(fun v w1 w'=>v 7 = .pointer (some ⟨O,0,none⟩) /\ Q0f w' (O + 1) 3 (Value.int .i64) (v 6) (Q0p t (k + 1)) /\ Below (O + 1) w1 w' /\ w'.cell? ⟨wr.heap.size,1,none⟩ = some (.int .i64 (bChance t.basics k))) v w1 wl:=hT;intro bb hbb;subst hbb;obtain ⟨hT0,hT⟩:=hT;intro K hK;go_simp;exact hK _ _ ⟨rfl,hT⟩
    case g9=>
     intro v w1 hx (q0:v 0 = _) (q1:v 1 = _) (q2:v 2 = _) (q3:v 3 = _) (q4:v 4 = _) _;intro wl hT;replace hT:(fun v w1 w'=>v 8 = .pointer (some ⟨O,1,none⟩) /\ Q0f w' (O + 1) 3 (Value.int .i64) (v 6) (Q0p t (k + 1)) /\ Below (O + 1) w1 w' /\ w'.cell? ⟨wr.heap.size,1,none⟩ = some (.int .i64 (bChance t.basics k))) v w1 wl:=hT;intro bb hbb;intro K hK;obtain ⟨hT0,hT1,hT2,hT3⟩:=hT;have hxx:=hd2.trans hx;obtain ⟨bp,cp,hsh,_⟩:=hT1.shape;have o1:bb.eval (.tmp 29) = .pointer (some ⟨O,1,none⟩):=by rw [hbb]; dsimp only; (try simp (discharger:=decide) only [eval_put_ne]); rw [Q0a (by simp only [size_put]; exact (by decide:29 < 79))]; exact hT0
     have o2:bb.eval (.tmp 27) = v 6:=by rw [hbb]; dsimp only; (try simp (discharger:=decide) only [eval_put_ne]); rw [Q0a (by simp only [size_put]; exact (by decide:27 < 79))]
     clear hbb;have hbl:=(HBLK.out.ext hxx).below hT2 (by omega)
     refine Q2a _ _ rfl Tryd.X4a (g:=O) (k:=1) o1 o2 (by rw [hsh]; rfl) (by rw [hsh]; rfl) hbl (by decide:1 < 16) (fun v'=>hK _ _ ⟨v 6,hT1.setCell (by show O < O + 1; omega) _,hbl.set 1 (v 6),(Below.mono (B':=O) hT2 (by omega)).setCell (p:=⟨O,1,none⟩) (Nat.le_refl _) _,?_⟩)
     exact (World.cell?_setCell_other _ _ _ _ (by intro h; injection h with h; omega)).trans hT3
    case post =>
     intro v w1 hx;(iterate 5 intro (zq:v _ = _));intro (q5:(fun v w'=>∃ g,v 5 = .slice (some ⟨g,0,none⟩) 1 1 /\ w'.cell? ⟨g,0,none⟩ = some (.int .i64 ((2 ^ k:Nat):Int))) v w1);intro w2 hE;replace hE:(fun v w1 w'=>∃ x,Q0f w' (O + 1) 3 (Value.int .i64) x (Q0p t (k + 1)) /\ Blk w' O 131 (outA 0 x (X7r t k) t.basics.length Q4u) /\ Below O w1 w' /\ w'.cell? ⟨wr.heap.size,1,none⟩ = some (.int .i64 (bChance t.basics k))) v w1 w2:=hE;simp only [Flow.acts,Act.put];go_simp;obtain ⟨x,hown',hblk',hbl',hf1⟩:=hE;have n2k:=hblk'.cell (2 + k);rw [X2v _ _ _ _ _ (by omega)] at n2k
     have nfr:=hblk'.frozen (2 + k);have hbw:Below O W w2:=Below.trans (Below.trans (Below.trans hbel (hx2.below (by omega))) ((hd2.trans hx).below (by omega))) hbl'
     have HOWN':=Lib.hid hown';have HBLK':=Lib.hid hblk';have HBW:=Lib.hid hbw;have k1:(k:Int) < 12:=by omega
     clear hown' hblk' hbl' hbw;go_wp2;go_roundw
     case rel=>exact ⟨k + 1,x,by omega,by go_num,HOWN'.out.setCell (by show O < O + 1; omega) _,(by have h:=HBLK'.out.set (2 + k) (.int .i64 (bChance t.basics k)); rw [X3s (d:=X7r t (k + 1)) _ _ _ _ (by omega) (fun i _=>HCS.out i)] at h; exact h),HBW.out.setCell (p:=⟨O,2 + k,none⟩) (Nat.le_refl _) _⟩
     case measure=>simp [intOf]; omega
  . have hkn:k = t.basics.length:=by omega
    subst hkn;have HOWN:=Lib.hid hown;have HBLK:=Lib.hid hblk;have HBEL:=Lib.hid hbel;clear hown hblk hbel;go_wp2
    go_loopw [40] (fun i wr=>∃ (j:Nat) (fv:Value),j <= t.causes.length /\ i = .int .i64 j /\ Q0f wr (O + 1) 3 (Value.int .i64) fv (Q0p t (t.basics.length + j)) /\ Blk wr O 131 (outA 0 fv (X7r t (t.basics.length + j)) t.basics.length Q4u) /\ Below O W wr) (fun i _=>t.causes.length - (intOf i).toNat)
    case atStart=>exact ⟨0,fv,Nat.zero_le _,rfl,HOWN.out,HBLK.out,HBEL.out⟩
    case round =>
     clear HOWN HBLK HBEL fv t0 t1 t2;obtain ⟨j,fv,hj,rfl,hown,hblk,hbel⟩:=hrel;have t0:=(K0.out.below hbel (by omega)).cell 0
     have t1:=(K0.out.below hbel (by omega)).cell 1
     have t2:=(K0.out.below hbel (by omega)).cell 2
     simp only [Go.Tw.gA,Go.Tw.gB,Go.Tw.gC] at t0 t1 t2
     by_cases hlj:j < t.causes.length
     . obtain ⟨b1,off,m,rfl,hb1,e0,e1,e2,hM,_⟩:=HC2.out j hlj
       replace e0:=(hbel.cell (p:=⟨b1,off + j * 3,none⟩) (by show b1 < O; omega)).trans (HXW.out.cell e0)
       replace e1:=(hbel.cell (p:=⟨b1,off + j * 3 + 1,none⟩) (by show b1 < O; omega)).trans (HXW.out.cell e1)
       replace e2:=(hbel.cell (p:=⟨b1,off + j * 3 + 2,none⟩) (by show b1 < O; omega)).trans (HXW.out.cell e2)
       have hMW:=hM.ext HXW.out;have hMr:IsInts wr m (cMembers t.causes j):=hMW.below hbel (fun b o c hv hne=>by
        obtain ⟨A0,c0,h1,_,_,h2⟩:=hM.opened;rw [h1] at hv;obtain ⟨b',off',hA,hc⟩:=h2 0 (List.length_pos_iff.2 hne);have h5:b' < w.heap.size:=World.block_lt_of_cell? w _ hc;rw [hA] at hv;cases hv;omega)
       obtain ⟨A3,cap3,rfl,_,_,_⟩:=hM.opened;have hwrs:O + 1 <= wr.heap.size:=by have:=hbel.size; omega
       have HNE:=Lib.hid hown.new_ne;have hm:t.maskAt (t.basics.length + j) = Q1d (cMembers t.causes j):=by unfold Tree.maskAt; rw [if_neg (by omega),Nat.add_sub_cancel_left]
       have hch:t.chanceAt (t.basics.length + j) = cChance t.causes j:=by unfold Tree.chanceAt; rw [if_neg (by omega),Nat.add_sub_cancel_left]
       have HMS:=Lib.hid (Q6f t (t.basics.length + j));have HCS:=Lib.hid (fun i=>X1b t (t.basics.length + j) i);have HMB:Hid (∀ x ∈ cMembers t.causes j,0 <= x /\ x < 62):=by
        exact (fun x hx=>by have:=HV.out.members hlj x hx; omega:∀ x ∈ cMembers t.causes j,0 <= x /\ x < 62)
       have hml:=Q3f t (t.basics.length + j);have hsz2:t.basics.length + j < 12:=by unfold Tree.size at hsz; omega
       rw [hm] at HMS;rw [hch] at HCS;clear hm hch hMW hM
       go_light
       go_wp2;obtain ⟨W2,hW2⟩:∃ W2,wr.alloc (.cells #[.string (cName t.causes j),.int .i64 (cChance t.causes j),.slice A3 (cMembers t.causes j).length cap3] 166) = W2:=⟨_,rfl⟩;have hx2:Ext wr W2:=by rw [<- hW2]; exact Ext.box _ _
       have f1:W2.cell? ⟨wr.heap.size,1,none⟩ = some (.int .i64 (cChance t.causes j)):=by rw [<- hW2]; exact Q0d _ _ _ 1
       have f2:W2.cell? ⟨wr.heap.size,2,none⟩ = some (.slice A3 (cMembers t.causes j).length cap3):=by rw [<- hW2]; exact Q0d _ _ _ 2
       have hs2:W2.heap.size = wr.heap.size + 1:=by rw [<- hW2]; simp
       rw [hW2];have HOWN:=Lib.hid (hown.below hx2);have HBLK:=Lib.hid (hblk.ext hx2);have HF1:=Lib.hid f1;have HF2:=Lib.hid f2;have HMI:=Lib.hid (hMr.ext hx2);have hd2:=(Ext.refl W2).drew;obtain ⟨M,hMe⟩:∃ M,Q1d (cMembers t.causes j) = M:=⟨_,rfl⟩;have HMK:Hid (∀ w',Ext W2 w' -> Calls Tryd.prog 67 #[.slice A3 (cMembers t.causes j).length cap3] w' fun e w''=>e = .returned (.int .i64 (M:Nat)) /\ w' = w''):=by
        exact (by intro w' h; rw [<- hMe]; exact Q9i _ _ _ (HMI.out.ext h) HMB.out:∀ w',Ext W2 w' -> Calls Tryd.prog 67 #[.slice A3 (cMembers t.causes j).length cap3] w' fun e w''=>e = .returned (.int .i64 (M:Nat)) /\ w' = w'')
       rw [hMe] at HMS;clear hW2 hown hblk t1 t2 e0 e1 e2 f1 f2 hMr hMe;refine Flow.region [.p,.p,.w,.p,.w,.w,.w,.last,.last,.last,.last] [0,1,2,3,4,5,6,7,8,9,10] [[],[0],[0,1],[],[3],[3,4],[3,4,5],[0,1,2,3,4,5,6],[0,1,2,3,4,5,6,7],[0,1,2,3,4,5,6,7,8],[0,1,2,3,4,5,6,7,8,9]] [7,8,9,10]
        [.c 0 (.pointer (some ⟨O,0,none⟩)),.c 1 (.pointer (some ⟨O,1,none⟩)),.c 2 (fv),.c 3 (.pointer (some ⟨wr.heap.size,2,none⟩)),.c 4 (.slice A3 (cMembers t.causes j).length cap3),.c 5 (.int .i64 (M:Nat)),⟨fun v wz=>(fun v w'=>∃ g,v 6 = .slice (some ⟨g,0,none⟩) 1 1 /\ w'.cell? ⟨g,0,none⟩ = some (.int .i64 (M:Nat))) v wz,by rintro v a b hx ⟨g,h1,h2⟩; exact ⟨g,h1,hx.cell h2⟩⟩,.none,.none,.none,.none]
        [fun v w1 w'=>Q0f w' (O + 1) 3 (Value.int .i64) (v 7) (Q0p t (t.basics.length + j + 1)) /\ Below (O + 1) w1 w' /\ w'.cell? ⟨wr.heap.size,1,none⟩ = some (.int .i64 (cChance t.causes j)),fun v w1 w'=>v 8 = .pointer (some ⟨O,0,none⟩) /\ Q0f w' (O + 1) 3 (Value.int .i64) (v 7) (Q0p t (t.basics.length + j + 1)) /\ Below (O + 1) w1 w' /\ w'.cell? ⟨wr.heap.size,1,none⟩ = some (.int .i64 (cChance t.causes j)),fun v w1 w'=>v 9 = .pointer (some ⟨O,1,none⟩) /\ Q0f w' (O + 1) 3 (Value.int .i64) (v 7) (Q0p t (t.basics.length + j + 1)) /\ Below (O + 1) w1 w' /\ w'.cell? ⟨wr.heap.size,1,none⟩ = some (.int .i64 (cChance t.causes j)),fun v w1 w'=>∃ x,Q0f w' (O + 1) 3 (Value.int .i64) x (Q0p t (t.basics.length + j + 1)) /\ Blk w' O 131 (outA 0 x (X7r t (t.basics.length + j)) t.basics.length Q4u) /\ Below O w1 w' /\ w'.cell? ⟨wr.heap.size,1,none⟩ = some (.int .i64 (cChance t.causes j))] (by kernel_rfl) rfl (by kernel_rfl) ⟨?g0,?g1,?g2,?g3,?g4,?g5,?g6,?g7,?g8,?g9,?g10,trivial⟩ ?post
       case g0 | g3=>
        intro v w1 hx;refine ⟨_,fun w=>?_,rfl⟩;go_simp
       case g1=>
        intro v w1 hx;(repeat intro (zq:v _ = _));refine ⟨_,fun w=>?_,rfl⟩;go_simp
       case g2=>
        intro v w1 hx;(repeat intro (zq:v _ = _));have n0:w1.cell? ⟨O,1,none⟩ = some fv:=(HBLK.out.ext (hd2.trans hx)).cell 1;intro K hK;go_simp;exact hK _ _ (Ext.refl _) rfl
       case g4=>
        intro v w1 hx;(repeat intro (zq:v _ = _));have n1:=(hd2.trans hx).cell HF2.out;intro K hK;go_simp;exact hK _ _ (Ext.refl _) rfl
       case g5=>
        intro v w1 hx;(repeat intro (zq:v _ = _));intro K hK;go_simp;refine Q0b (HMK.out _ (hd2.trans hx)) ?_;rintro e w2 ⟨rfl,rfl⟩;exact ⟨_,rfl,hK _ _ (Ext.refl _) rfl⟩
       case g6=>
        intro v w1 hx;(repeat intro (zq:v _ = _));intro K hK;go_simp;exact hK _ _ (Ext.box _ _) ⟨_,rfl,Q0d _ _ _ 0⟩
       case g7=>
        intro v w1 hx (q0:v 0 = _) (q1:v 1 = _) (q2:v 2 = _) (q3:v 3 = _) (q4:v 4 = _) (q5:v 5 = _) (q6:(fun v w'=>∃ g,v 6 = .slice (some ⟨g,0,none⟩) 1 1 /\ w'.cell? ⟨g,0,none⟩ = some (.int .i64 (M:Nat))) v w1);intro wl hT;obtain rfl:wl = w1:=hT;intro bb hbb;intro K hK;obtain ⟨g,hg5,hc5⟩:=q6;have o1:bb.eval (.tmp 47) = fv:=by rw [hbb]; dsimp only; (try simp (discharger:=decide) only [eval_put_ne]); rw [Q0a (by simp only [size_put]; exact (by decide:47 < 79))]; exact q2
        have o2:bb.eval (.tmp 51) = .slice (some ⟨g,0,none⟩) 1 1:=by rw [hbb]; dsimp only; (try simp (discharger:=decide) only [eval_put_ne]); rw [Q0a (by simp only [size_put]; exact (by decide:51 < 79))]; exact hg5
        clear hbb;have hxx:=hd2.trans hx;have hwl:O + 1 <= wl.heap.size:=by have:=hxx.size; omega
        refine Q5y _ _ 32 rfl (O + 1) 3 i0 (.int .i64 0) 8 Tryd.underlying32 hi hz0 hz1 hz2 rfl (.int .i64) fv (Q0p t (t.basics.length + j)) [(M:Int)] o1 (HOWN.out.below hxx) ⟨g,0,none⟩ 1 o2 (Y1u hc5) (fun _=>rfl) (by rw [hml]; simp; omega) (by decide) hwl (fun v' w' hown hg=>?_)
        refine hK _ _ ⟨by rw [HMS.out]; exact hown,below_grown (HOWN.out.below hxx) hg (Nat.le_refl _) hwl,(Q4e hg (by have:=hxx.size; omega) HNE.out).trans (hxx.cell HF1.out)⟩
       case g8=>
        intro v w1 hx (q0:v 0 = _) (q1:v 1 = _) (q2:v 2 = _) (q3:v 3 = _) (q4:v 4 = _) (q5:v 5 = _) _;intro wl hT;replace hT:(fun v w1 w'=>Q0f w' (O + 1) 3 (Value.int .i64) (v 7) (Q0p t (t.basics.length + j + 1)) /\ Below (O + 1) w1 w' /\ w'.cell? ⟨wr.heap.size,1,none⟩ = some (.int .i64 (cChance t.causes j))) v w1 wl:=hT;intro bb hbb;subst hbb;intro K hK;go_simp;exact hK _ _ ⟨rfl,hT⟩
       case g9=>
        intro v w1 hx (q0:v 0 = _) (q1:v 1 = _) (q2:v 2 = _) (q3:v 3 = _) (q4:v 4 = _) (q5:v 5 = _) _;intro wl hT;replace hT:(fun v w1 w'=>v 8 = .pointer (some ⟨O,0,none⟩) /\ Q0f w' (O + 1) 3 (Value.int .i64) (v 7) (Q0p t (t.basics.length + j + 1)) /\ Below (O + 1) w1 w' /\ w'.cell? ⟨wr.heap.size,1,none⟩ = some (.int .i64 (cChance t.causes j))) v w1 wl:=hT;intro bb hbb;subst hbb;obtain ⟨hT0,hT⟩:=hT;intro K hK;go_simp;exact hK _ _ ⟨rfl,hT⟩
       case g10=>
        intro v w1 hx (q0:v 0 = _) (q1:v 1 = _) (q2:v 2 = _) (q3:v 3 = _) (q4:v 4 = _) (q5:v 5 = _) _;intro wl hT;replace hT:(fun v w1 w'=>v 9 = .pointer (some ⟨O,1,none⟩) /\ Q0f w' (O + 1) 3 (Value.int .i64) (v 7) (Q0p t (t.basics.length + j + 1)) /\ Below (O + 1) w1 w' /\ w'.cell? ⟨wr.heap.size,1,none⟩ = some (.int .i64 (cChance t.causes j))) v w1 wl:=hT;intro bb hbb;intro K hK;obtain ⟨hT0,hT1,hT2,hT3⟩:=hT;have hxx:=hd2.trans hx;obtain ⟨bp,cp,hsh,_⟩:=hT1.shape;have o1:bb.eval (.tmp 54) = .pointer (some ⟨O,1,none⟩):=by rw [hbb]; dsimp only; (try simp (discharger:=decide) only [eval_put_ne]); rw [Q0a (by simp only [size_put]; exact (by decide:54 < 79))]; exact hT0
        have o2:bb.eval (.tmp 52) = v 7:=by rw [hbb]; dsimp only; (try simp (discharger:=decide) only [eval_put_ne]); rw [Q0a (by simp only [size_put]; exact (by decide:52 < 79))]
        clear hbb;have hbl:=(HBLK.out.ext hxx).below hT2 (by omega)
        refine Q2a _ _ rfl Tryd.X4a (g:=O) (k:=1) o1 o2 (by rw [hsh]; rfl) (by rw [hsh]; rfl) hbl (by decide:1 < 16) (fun v'=>hK _ _ ⟨v 7,hT1.setCell (by show O < O + 1; omega) _,hbl.set 1 (v 7),(Below.mono (B':=O) hT2 (by omega)).setCell (p:=⟨O,1,none⟩) (Nat.le_refl _) _,?_⟩)
        exact (World.cell?_setCell_other _ _ _ _ (by intro h; injection h with h; omega)).trans hT3
       case post =>
        intro v w1 hx;(iterate 6 intro (zq:v _ = _));intro (q6:(fun v w'=>∃ g,v 6 = .slice (some ⟨g,0,none⟩) 1 1 /\ w'.cell? ⟨g,0,none⟩ = some (.int .i64 (M:Nat))) v w1);intro w2 hE;replace hE:(fun v w1 w'=>∃ x,Q0f w' (O + 1) 3 (Value.int .i64) x (Q0p t (t.basics.length + j + 1)) /\ Blk w' O 131 (outA 0 x (X7r t (t.basics.length + j)) t.basics.length Q4u) /\ Below O w1 w' /\ w'.cell? ⟨wr.heap.size,1,none⟩ = some (.int .i64 (cChance t.causes j))) v w1 w2:=hE;simp only [Flow.acts,Act.put];go_simp;obtain ⟨x,hown',hblk',hbl',hf1⟩:=hE;have n2k:=hblk'.cell (2 + (t.basics.length + j));rw [X2v _ _ _ _ _ (by omega)] at n2k
        have nfr:=hblk'.frozen (2 + (t.basics.length + j));have hbw:Below O W w2:=Below.trans (Below.trans (Below.trans hbel (hx2.below (by omega))) ((hd2.trans hx).below (by omega))) hbl'
        have t0':=(K0.out.below hbw (by omega)).cell 0
        simp only [Go.Tw.gA,Go.Tw.gB,Go.Tw.gC] at t0';have HOWN':=Lib.hid hown';have HBLK':=Lib.hid hblk';have HBW:=Lib.hid hbw;have k1:(t.basics.length:Int) + (j:Int) < 12:=by omega
        have k2:(((t.basics.length:Int) + (j:Int))).toNat = t.basics.length + j:=by omega
        clear hown' hblk' hbl' hbw t0;go_wp2;go_roundw
        case rel=>exact ⟨j + 1,x,by omega,by go_num,HOWN'.out.setCell (by show O < O + 1; omega) _,(by have h:=HBLK'.out.set (2 + (t.basics.length + j)) (.int .i64 (cChance t.causes j)); rw [X3s (d:=X7r t (t.basics.length + j + 1)) _ _ _ _ (by omega) (fun i _=>HCS.out i)] at h; exact h),HBW.out.setCell (p:=⟨O,2 + (t.basics.length + j),none⟩) (Nat.le_refl _) _⟩
        case measure=>simp [intOf]; omega
     . have hjn:t.basics.length + j = t.size:=by unfold Tree.size; omega
       rw [hjn] at hown hblk;obtain ⟨bp,cp,hsh,hcp⟩:=hown.shape;rw [Q3f] at hsh hcp;have n0:=hblk.cell 0;have n1:=hblk.cell 1;have nfr:=hblk.frozen 0;have HB4:=Lib.hid (hblk.set 0 (.int .i64 t.size));have HO4:=Lib.hid (hown.setCell (p:=⟨O,0,none⟩) (by show O < O + 1; omega) (.int .i64 t.size))
       have HBE4:=Lib.hid (hbel.setCell (p:=⟨O,0,none⟩) (Nat.le_refl _) (.int .i64 t.size));subst hsh;simp only [outA,Go.Tw.gA,Go.Tw.gB,Go.Tw.gC] at n0 n1;clear hown hblk;go_wp2_with fail;refine (X0p _).mono ?_;rintro e w5 ⟨b5,rfl,hm5,hx5⟩;have hs4:O < (wr.setCell ⟨O,0,none⟩ (.int .i64 t.size)).heap.size:=HB4.out.lt;have HB5:=HB4.out.ext hx5;have HO5:=HO4.out.below hx5;have HBE5:=Below.trans HBE4.out (hx5.below (by omega))
       have hx05:Ext w w5:=Below.trans HXW.out (Below.mono HBE5 (by omega))
       have HM5:=Lib.hid hm5;have hx6:=Ext.box w5 (.cells #[.map (some b5)] 167);have HX6:=Lib.hid hx6;have hx06:=hx05.trans hx6;replace t2:=((K0.out.below HBE5 (by omega)).ext hx6).cell 2
       simp only [Go.Tw.gA,Go.Tw.gB,Go.Tw.gC] at t2;have HB6:=Lib.hid (HB5.ext hx6);have HO6:=Lib.hid (HO5.below hx6);have HBE6:=Lib.hid (Below.trans HBE5 (hx6.below (by have:=HB5.lt; omega)))
       have HX06:=Lib.hid hx06;have hx06s:O + 1 <= (w5.alloc (.cells #[.map (some b5)] 167)).heap.size:=(HB5.ext hx6).lt;clear HB4 HO4 HBE4 HB5 HO5 HBE5 n0 n1 nfr t0 t1 hx6 hx06 hx05 hm5 hx5 hs4;go_wp2_with fail;refine (X1r _ _ t w5.heap.size b5 HV.out (HT.out.gates.ext HX06.out) (Q0d _ _ _ 0) (HM5.out.ext HX6.out)).mono ?_;rintro e w7 ⟨gv,rfl,hgt,hx7⟩;have HGT:=Lib.hid hgt;obtain ⟨A7,cap7,hgsh,_⟩:=hgt.shape;rw [Q7k] at hgsh;subst hgsh;have hb7:=HB6.out.ext hx7;have n15:=hb7.cell 15;have nfr:=hb7.frozen 15;simp only [outA,Go.Tw.gA,Go.Tw.gB,Go.Tw.gC] at n15;have HB8:=Lib.hid (hb7.set 15 (.slice A7 t.gates.length cap7));have HO7:=Lib.hid (HO6.out.below hx7);have HBE7:=Lib.hid (Below.trans HBE6.out (hx7.below (by have:=HB6.out.lt; omega)))
       clear hgt hb7 HB6 HO6 HBE6 t2;have HR8:=Lib.hid ((R0.out.below HBE7.out (by omega)).below (w':=w7.setCell ⟨O,15,none⟩ (.slice A7 t.gates.length cap7)) (B:=O) ((Below.refl O w7).setCell (p:=⟨O,15,none⟩) (Nat.le_refl _) _) (by omega))
       go_wp2_with (first | (refine Q0q rfl _ _ rfl Tryd.Q2n Tryd.Q1i rfl HB8.out rfl ?_) | (refine Q0j rfl _ _ _ rfl Tryd.Q1i rfl rfl HR8.out rfl rfl ?_ ?_; (focus (intro u hu; simp [outA] at hu; rcases hu with rfl | rfl | rfl | rfl | rfl | rfl | rfl | rfl | rfl | rfl | rfl | rfl | rfl | rfl | rfl | rfl <;> rfl)); intro w9 hb9 hl9 ho9))
       have hbw:=Below.trans HBE7.out ((Below.refl O w7).setCell (p:=⟨O,15,none⟩) (Nat.le_refl _) (.slice A7 t.gates.length cap7));have hwf:Ext w w9:=Below.trans (Below.trans HXW.out (Below.mono (B':=w.heap.size) hbw (by omega))) (hl9 w.heap.size (by omega))
       refine bodyPost_ret (Q3i Tryd.results65 rfl hb9 Tryd.Q2n Tryd.Q1i) rfl ?_;refine ⟨_,_,rfl,⟨?_,?_⟩,hwf⟩
       . exact (((HO7.out.setCell (p:=⟨O,15,none⟩) (by show O < O + 1; omega) _).only (by omega:R < O + 1) ho9)).ints (by rw [Q3f]; omega)
       . exact Q2r.gts (fun _ _ _=>Iff.rfl) ((HGT.out.only (g:=O) (by have:=hx06s; omega) (Q1x w7 ⟨O,15,none⟩ _)).only (by have:=hx06s; omega) ho9) (by rw [Q7k]; omega)
end Go.Proofs
