/- Contract: the reference's Parse. -/
import Derived.Test.YtgopmebjbkdfgaaGreatDoorTx36
import Derived.Test.YtgopmebjbkdfgaaGreatDoorTx27
import Derived.Test.YtgopmebjbkdfgaaGreatDoorTx31
set_option maxRecDepth 1000000
set_option maxHeartbeats 64000000
set_option linter.unusedVariables false
set_option linter.unusedSimpArgs false
set_option linter.constructorNameAsVariable false
namespace Go.Proofs
open Go.RowKit Go.Tw Go.Flow
def Z7s:Tys:=⟨48,50,97,26⟩
theorem Z7s.ok:Z7s.Ok:=by constructor <;> decide
def Z8n (s:ByteArray) (k:Nat) (t1:Tree):Prop :=
 Q4x t1 k ((parts 10 (dat s)).drop k) = Q4x noT 0 (parts 10 (dat s)) /\ k < (parts 10 (dat s)).length /\ t1.basics.length + t1.causes.length + t1.gates.length = k
theorem Y7l (s:ByteArray):Z8n s 0 noT:=by
 obtain ⟨x,r,h⟩:=Q5b 10 (dat s);exact ⟨by rw [List.drop_zero],by rw [h]; simp,rfl⟩
theorem Z2d {s:ByteArray} {k:Nat} {t1:Tree} {x:List UInt8} (h:Z8n s k t1) (hk:k + 1 = (parts 10 (dat s)).length) (hx:(parts 10 (dat s))[k]? = some x):Q4x noT 0 (parts 10 (dat s)) = if x = [] then (if t1.err = 0 then (t1,0,0) else (noT,(k:Int),t1.err)) else (noT,(k:Int),26):=by
 rw [<- h.1];obtain ⟨hl,e⟩:=List.getElem?_eq_some_iff.1 hx;have e2:(parts 10 (dat s)).drop k = [x]:=by
  rw [List.drop_eq_getElem_cons hl,e,List.drop_eq_nil_of_le (by omega)]
 rw [e2];show (if x.isEmpty = true then _ else _) = _
 cases x <;> rfl
theorem Z0n {s:ByteArray} {k:Nat} {t1:Tree} {x:List UInt8} (h:Z8n s k t1) (hk:k + 1 < (parts 10 (dat s)).length) (hx:(parts 10 (dat s))[k]? = some x) :
    (Q0z t1 x = none -> Q4x noT 0 (parts 10 (dat s)) = (noT,(k:Int),26)) /\ ∀ t',Q0z t1 x = some t' -> Z8n s (k + 1) t':=by
 obtain ⟨h1,h2,h3⟩:=h;obtain ⟨hl,e⟩:=List.getElem?_eq_some_iff.1 hx;rw [List.drop_eq_getElem_cons hl,e,List.drop_eq_getElem_cons hk] at h1
 constructor
 . intro hn
   rw [<- h1];show (match Q0z t1 x with | none=>_ | some t'=>_) = _
   rw [hn]
 . intro t' hs
   refine ⟨?_,hk,?_⟩
   . rw [<- h1,List.drop_eq_getElem_cons hk]
     show _ = (match Q0z t1 x with | none=>_ | some t'=>_)
     rw [hs]
   . obtain ⟨form,name,n,ns,hr⟩:∃ form name n ns,Q2e t1 form name n ns = some t':=by
      unfold Q0z X4j at hs
      split at hs
      . split at hs
        . cases hs
        . split at hs
          . exact ⟨_,_,_,_,hs⟩
          . cases hs
      . cases hs
     have:=Y0l hr;omega
def Z7t (ws:List ByteArray) (l:List Int) (j:Nat):Prop:=numsOf ((ws.drop 2).map dat) = (numsOf ((ws.drop j).map dat)).map (l ++ ·) /\ l.length + 2 = j
theorem Y6j (ws:List ByteArray):Z7t ws [] 2:=by
 refine ⟨?_,rfl⟩;cases numsOf ((ws.drop 2).map dat) <;> rfl
theorem Z5q {x:ByteArray}:numOf (dat x) = if okR x = true then some (X5j x) else none:=by
 unfold numOf;show (if okR x = true then _ else _:Option Int) = _
 by_cases h:okR x = true
 . rw [if_pos h,if_pos h]
   unfold X5j;rw [if_pos (show Q8b x.data.toList = true from h)]
   rfl
 . rw [if_neg h,if_neg h]
theorem Z1m {ws:List ByteArray} {l:List Int} {j:Nat} (h:Z7t ws l j) (hj:j < ws.length) (ho:okR ws[j] = true):Z7t ws (l ++ [X5j ws[j]]) (j + 1):=by
 obtain ⟨h1,h2⟩:=h;refine ⟨?_,by simp; omega⟩
 rw [h1,List.drop_eq_getElem_cons hj,List.map_cons,Q6r,Z5q,if_pos ho];cases numsOf ((ws.drop (j + 1)).map dat) with
 | none=>rfl
 | some y=>simp
theorem Z6h {ws:List ByteArray} {l:List Int} {j:Nat} (h:Z7t ws l j) (hj:j < ws.length) (ho:¬ okR ws[j] = true):numsOf ((ws.drop 2).map dat) = none:=by
 obtain ⟨h1,h2⟩:=h;rw [h1,List.drop_eq_getElem_cons hj,List.map_cons,Q6r,Z5q,if_neg ho];rfl
theorem Z4u {ws:List ByteArray} {l:List Int} {j:Nat} (h:Z7t ws l j) (hj:¬ j < ws.length):numsOf ((ws.drop 2).map dat) = some l:=by
 obtain ⟨h1,h2⟩:=h;rw [h1,List.drop_eq_nil_of_le (by omega)]
 simp [numsOf]
theorem X4u (c:UInt8) (s:ByteArray):(Q2u c s).map dat = parts c (dat s):=by
 unfold Q2u;rw [List.map_map];have:(dat ∘ fun l=>(⟨l.toArray⟩:ByteArray)) = id:=by funext l; rfl
 rw [this,List.map_id]; rfl
theorem Z4e {s:ByteArray} {t:Tree} (h:(Q2u 32 s).length < 3):Q0z t (dat s) = none:=by
 rcases hw:Q2u 32 s with _ | ⟨x,_ | ⟨y,_ | ⟨z,r⟩⟩⟩
 . obtain ⟨x,r,h⟩:=Q8g 32 s
   rw [h] at hw; cases hw
 . exact Z5b hw t
 . rw [X2u hw]
   split
   . rfl
   . rfl
 . rw [hw] at h; simp at h; omega
theorem Y3b {s:ByteArray} {t:Tree} {x y:ByteArray} {r:List ByteArray} (h:Q2u 32 s = x :: y :: r) (hy:y.toList = []):Q0z t (dat s) = none:=by
 rw [X2u h,if_pos];rw [toList_nil_iff_emptyBytes] at hy;rw [hy]; rfl
theorem Z3a {s:ByteArray} {t:Tree} {x y:ByteArray} {r:List ByteArray} (h:Q2u 32 s = x :: y :: r) (hn:numsOf (r.map dat) = none):Q0z t (dat s) = none:=by
 rw [X2u h,hn]
 split <;> rfl
theorem Z7k {s:ByteArray} {t:Tree} {x y:ByteArray} {r:List ByteArray} {n:Int} {ns:List Int} (h:Q2u 32 s = x :: y :: r) (hy:¬ y.toList = []) (hn:numsOf (r.map dat) = some (n :: ns)):Q0z t (dat s) = Q2e t (dat x) (dat y) n ns:=by
 rw [X2u h,hn,if_neg];intro e;exact hy (by rw [toList_nil_iff_emptyBytes]; exact Q8p (List.isEmpty_iff.1 e))
theorem Z1e {w:World} {base:Nat} {v:Value} {n:Int} {ns:List Int} {N:Nat} (h:Q0s w base 3 (.int .i64) v (n :: ns)) (hN:(n :: ns).length = N):∃ gn cn,v = .slice (some ⟨gn,0,none⟩) N cn /\ Hid (w.cell? ⟨gn,0,none⟩ = some (.int .i64 n)):=by
 rcases h.cells2 with ⟨_,h0⟩ | ⟨g',c',hv,_,_,_,hc⟩
 . cases h0
 . refine ⟨g',c',by rw [hv,hN],Lib.hid ?_⟩
   have:=hc 0 (by simp)
   simpa using this
theorem X8h (w:World) (s:ByteArray) (hs:s.size <= 100000) :
    Calls Tryz.prog 28 #[.string s] w fun e w'=>∃ x,e = .returned (.tuple #[x,.int .i64 (Q3s s).2.1,.int .i64 (Q3s s).2.2]) /\ IsTree w' x (Q3s s).1 /\ Ext w w':=by
 obtain ⟨i0,hi,hz0,hz1,hz2⟩:=info_parts Tryz.info3;obtain ⟨ib,hib,hzb0,hzb1,hzb2⟩:=info_parts Tryz.Z5f;obtain ⟨ic,hic,hzc0,hzc1,hzc2⟩:=info_parts Tryz.Z5d;obtain ⟨ig,hig,hzg0,hzg1,hzg2⟩:=info_parts Tryz.Z5u
 by_cases hlong:4096 < s.size
 . have hl:(4096:Int) < (s.size:Int):=by omega
   have HE:Hid (Q3s s = (noT,0,27)):=Lib.hid (by unfold Q3s; rw [if_pos hlong])
   clear hlong;go_enter Tryz.func28,Tryz.ntmps28;go_wp2_with (refine Q0c rfl _ _ 26 rfl Tryz.Q0x rfl rfl (Blk.made _ _ _) rfl rfl ?_ ?_; (focus (intro u hu; simp only [List.mem_cons,List.not_mem_nil,or_false] at hu; rcases hu with rfl | rfl | rfl <;> rfl)); intro w8 hb8 hl8 ho8)
   refine bodyPost_ret (Q0t Tryz.results28 rfl hb8 Tryz.Q2s Tryz.Q0x rfl rfl) rfl ?_;exact ⟨_,by rw [HE.out]; rfl,by rw [HE.out]; exact Q2v _,Below.trans (Ext.box w _) (hl8 _ (Nat.le_refl _))⟩
 have hl:¬ (4096:Int) < (s.size:Int):=by omega
 have HE:Hid (Q3s s = Q4x noT 0 (parts 10 (dat s))):=Lib.hid (by unfold Q3s; rw [if_neg hlong]; rfl)
 have HOK:=Lib.hid Z7s.ok;go_enter Tryz.func28,Tryz.ntmps28;go_wp2_with fail;obtain ⟨W0,hW0⟩:∃ X,w.alloc (.cells #[.slice none 0 0,.slice none 0 0,.slice none 0 0] 26) = X:=⟨_,rfl⟩;have hx0:Ext w W0:=by rw [<- hW0]; exact Ext.box _ _
 have k0:Blk W0 w.heap.size 26 #[.slice none 0 0,.slice none 0 0,.slice none 0 0]:=by rw [<- hW0]; exact Blk.made _ _ _
 rw [hW0];clear hW0;refine (X7m W0 s 10 (by omega)).mono ?_
 rintro e w1 ⟨v1,rfl,hown1,hx1⟩;obtain ⟨LS,hLS⟩:∃ l,Q2u 10 s = l:=⟨_,rfl⟩;have hdl:LS.map dat = parts 10 (dat s):=by rw [<- hLS]; exact X4u 10 s
 have hll:LS.length = (parts 10 (dat s)).length:=by rw [<- hdl,List.length_map]
 have hlp:LS ≠ []:=by obtain ⟨x,r,h⟩:=Q8g 10 s; rw [<- hLS,h]; simp
 have hlsz:LS.length <= 4097:=by
  have h:=X1r 10 (dat s);have h2:(dat s).length = s.size:=Array.length_toList;omega
 have hlex:∀ x ∈ LS,x.size <= 4096:=by
  intro x hx;have h:=Q6l 10 (dat s) (dat x) (by rw [<- hdl]; exact List.mem_map_of_mem hx)
  have h2:(dat s).length = s.size:=Array.length_toList;have h3:(dat x).length = x.size:=Array.length_toList;omega
 rw [hLS] at hown1;obtain ⟨bl,cl,hv1,hcl⟩:∃ bl cl,v1 = .slice (some ⟨bl,0,none⟩) LS.length cl /\ ∀ j (h:j < LS.length),w1.cell? ⟨bl,j,none⟩ = some (.string LS[j]):=by
  rcases hown1.cells2 with ⟨_,h0⟩ | ⟨g,c,hv,_,_,_,hc⟩
  . exact absurd h0 hlp
  . refine ⟨g,c,hv,fun j h=>?_⟩
    have:=hc j h
    simpa using this
 subst hv1;have HCL:=Lib.hid hcl;have HLX:=Lib.hid hlex;have HDL:=Lib.hid hdl;have HLL:=Lib.hid hll;obtain ⟨NL,hNL⟩:∃ n,LS.length = n + 1:=⟨LS.length - 1,by have:0 < LS.length:=List.length_pos_iff.2 hlp; omega⟩
 have HNL:=Lib.hid hNL;rw [hNL] at hll hlsz;rw [hNL];have hK0:=k0.ext hx1;have hX1:=hx0.trans hx1;clear hown1 hcl hlex hdl hll hlp hNL hx0 hx1 k0 hLS hlong;have hxb:=Ext.box w1 (.cells #[.slice none 0 0,.slice none 0 0,.slice none 0 0] 26);have kb:=Blk.made w1 26 #[.slice none 0 0,.slice none 0 0,.slice none 0 0];have hOs:w.heap.size < w1.heap.size:=hK0.lt;obtain ⟨O,hO⟩:∃ O,w1.heap.size = O:=⟨_,rfl⟩;obtain ⟨W,hW⟩:∃ X,w1.alloc (.cells #[.slice none 0 0,.slice none 0 0,.slice none 0 0] 26) = X:=⟨_,rfl⟩;go_wp2;rw [hW,hO] at kb;rw [hW] at hxb;have HXW:=Lib.hid (hX1.trans hxb);have HCW:=Lib.hid (fun j (h:j < LS.length)=>hxb.cell (HCL.out j h));have HCB:Hid (bl < O):=Lib.hid (by rw [<- hO]; exact World.block_lt_of_cell? _ _ (HCL.out 0 (by have:=HNL.out; omega)))
 have HKW:=Lib.hid (hK0.ext hxb);have HP0:Hid (Z5e Z7s W O O noT):=Lib.hid ⟨_,_,_,_,_,X0y.start kb⟩;have hOW:O <= W.heap.size:=by rw [<- hO]; exact hxb.size
 rw [hO] at hOs;clear HCL hxb kb hK0 hX1 hW hO;have wN:IntKind.i64.wrap (((NL + 1:Nat):Int) - 1) = (NL:Int):=by rw [wrap_in (by omega) (by omega)]; omega
 have wN2:IntKind.i64.wrap ((NL:Int) + 1 - 1) = (NL:Int):=by rw [wrap_in (by omega) (by omega)]; omega
 go_loopw [7] (fun iv wr=>∃ (k:Nat) (t1:Tree),iv = .int .i64 k /\ k <= NL /\ Z5e Z7s wr O O t1 /\ Below O W wr /\ Z8n s k t1) (fun iv _=>NL - (intOf iv).toNat)
 case atStart=>exact ⟨0,noT,rfl,Nat.zero_le _,HP0.out,Below.refl _ _,Y7l s⟩
 case round =>
  obtain ⟨k,t1,rfl,hk,hpe,hbel,hpr⟩:=hrel;have htk:=hpr.2.2;have HPR:=Lib.hid hpr;have HB:=Lib.hid hbel;have HR:Hid (Blk wr w.heap.size 26 #[.slice none 0 0,.slice none 0 0,.slice none 0 0]):=Lib.hid (HKW.out.below hbel hOs);have HXR:Hid (Ext w wr):=Lib.hid (Below.trans HXW.out (Below.mono hbel (by omega)))
  have HCR:Hid (∀ j (h:j < LS.length),wr.cell? ⟨bl,j,none⟩ = some (.string LS[j])):=Lib.hid fun j h=>(Below.cell (p:=⟨bl,j,none⟩) hbel HCB.out).trans (HCW.out j h);have hOr:O <= wr.heap.size:=Nat.le_trans hOW hbel.size;have hkl:k < LS.length:=by have:=HNL.out; omega
  obtain ⟨x,hx⟩:∃ x,LS[k] = x:=⟨_,rfl⟩;have e0:=HCR.out k hkl;rw [hx] at e0;have hxs:x.size <= 4096:=by rw [<- hx]; exact HLX.out _ (List.getElem_mem hkl)
  have HPX:Hid ((parts 10 (dat s))[k]? = some (dat x)):=Lib.hid (by rw [<- HDL.out,List.getElem?_map,List.getElem?_eq_getElem hkl,hx]; rfl)
  clear hpr hbel hx;obtain ⟨vb,vc,vg,LC,LG,hpt⟩:=hpe;obtain ⟨Ab,cb,rfl,_⟩:=hpt.bas.shape;obtain ⟨Ac,cc,hvc,_⟩:=hpt.cau.shape;obtain ⟨Ag,cg,hvg,_⟩:=hpt.gat.shape;subst hvc hvg;have hnc:LC.length = t1.causes.length:=by rw [hpt.tc.1,List.length_map]
  have hng:LG.length = t1.gates.length:=by rw [hpt.tg.1,List.length_map]
  have HLN:Hid (LC.length <= 9000 /\ LG.length <= 9000):=Lib.hid (by omega)
  have hnbl:t1.basics.length <= 9000:=by omega
  obtain ⟨nc,hnc2⟩:∃ n,LC.length = n:=⟨_,rfl⟩;obtain ⟨ng,hng2⟩:∃ n,LG.length = n:=⟨_,rfl⟩;rw [hnc2] at hpt hnc;rw [hng2] at hpt hng;have HNC:=Lib.hid hnc;have HNG:=Lib.hid hng;have HPR0:=Lib.hid hpt;have HTK:=Lib.hid htk;clear hpt hnc2 hng2 hnc hng hkl htk
  by_cases hlt:k < NL
  . have hltI:(k:Int) < NL:=by omega
    have HL:=Lib.hid (Z0n HPR.out (by rw [<- HLL.out,HNL.out]; omega) HPX.out)
    have hk1:k < NL + 1:=by omega
    clear hlt;go_wp2_with fail;refine (X7m wr x 32 (by omega)).mono ?_
    rintro e w2 ⟨v2,rfl,hown2,hx2⟩;have HP2:=Lib.hid (HPR0.out.ext hx2);have HB2:=Lib.hid (HB.out.trans (hx2.below hOr));have HR2:=Lib.hid (HR.out.ext hx2);have HX2:=Lib.hid (HXR.out.trans hx2);have hO2:O <= w2.heap.size:=Nat.le_trans hOr hx2.size;obtain ⟨ws,hws⟩:∃ l,Q2u 32 x = l:=⟨_,rfl⟩;have HWS:=Lib.hid hws;have hwl:ws.length <= 4097:=by
     have h:=X1r 32 (dat x);have h2:(dat x).length = x.size:=Array.length_toList;rw [<- X4u,hws,List.length_map] at h;omega
    have hwx:∀ y ∈ ws,y.size <= 4096:=by
     intro y hy;have h:=Q6l 32 (dat x) (dat y) (by rw [<- X4u,hws]; exact List.mem_map_of_mem hy)
     have h2:(dat x).length = x.size:=Array.length_toList;have h3:(dat y).length = y.size:=Array.length_toList;omega
    have HWX:=Lib.hid hwx;rw [hws] at hown2;obtain ⟨bw,cw,hv2,hcw⟩:∃ bw cw,v2 = .slice (some ⟨bw,0,none⟩) ws.length cw /\ ∀ j (h:j < ws.length),w2.cell? ⟨bw,j,none⟩ = some (.string ws[j]):=by
     rcases hown2.cells2 with ⟨_,h0⟩ | ⟨g,c,hv,_,_,_,hc⟩
     . obtain ⟨p,r,h⟩:=Q8g 32 x
       rw [h] at hws; rw [h0] at hws; cases hws
     . refine ⟨g,c,hv,fun j h=>?_⟩
       have:=hc j h
       simpa using this
    subst hv2;have HCW2:=Lib.hid hcw;obtain ⟨NW,hNW⟩:∃ n,ws.length = n:=⟨_,rfl⟩;have HNW:=Lib.hid hNW;rw [hNW] at hwl ⊢;clear hown2 hx2 hwx hcw hNW HPR0 HR HXR e0
    by_cases h3:NW < 3
    . have h3I:(NW:Int) < 3:=by omega
      have HF:=Lib.hid (HE.out.trans (HL.out.1 (Z4e (by rw [HWS.out,HNW.out]; exact h3))))
      clear h3 hws;go_wp2_with (refine Q0c rfl _ _ 26 rfl Tryz.Q0x rfl rfl HR2.out rfl rfl ?_ ?_; (focus (intro u hu; simp only [List.mem_cons,List.not_mem_nil,or_false] at hu; rcases hu with rfl | rfl | rfl <;> rfl)); intro w8 hb8 hl8 ho8)
      refine bodyPost_ret (Q0t Tryz.results28 rfl hb8 Tryz.Q2s Tryz.Q0x rfl rfl) rfl ?_;exact ⟨_,by rw [HF.out]; rfl,by rw [HF.out]; exact Q2v _,Below.trans HX2.out (hl8 _ (Nat.le_refl _))⟩
    . have h3I:¬ (NW:Int) < 3:=by omega
      obtain ⟨f,y,r3,hfy⟩:∃ f y r3,ws = f :: y :: r3:=by
       rcases ws with _ | ⟨f,_ | ⟨y,r3⟩⟩
       . exact absurd HNW.out (by simp; omega)
       . exact absurd HNW.out (by simp; omega)
       . exact ⟨_,_,_,rfl⟩
      have HFY:Hid (Q2u 32 x = f :: y :: r3):=Lib.hid (by rw [HWS.out,hfy])
      have e1:w2.cell? ⟨bw,0,none⟩ = some (.string f):=by
       have:=HCW2.out 0 (by rw [hfy]; simp)
       simpa [hfy] using this
      have e2:w2.cell? ⟨bw,1,none⟩ = some (.string y):=by
       have:=HCW2.out 1 (by rw [hfy]; simp)
       simpa [hfy] using this
      have E1:=Lib.hid e1;have E2:=Lib.hid e2;have hw1:(1:Int) < (NW:Int):=by omega
      have hw2:¬ NW <= 1:=by omega
      have hw3:¬ NW = 0:=by omega
      have hw4:(0:Int) < (NW:Int):=by omega
      have HFYW:=Lib.hid hfy;clear hws hfy e1
      by_cases hy:y.toList = []
      . have hyE:y.toList.isEmpty = true:=by rw [hy]; rfl
        have HF:=Lib.hid (HE.out.trans (HL.out.1 (Y3b HFY.out hy)));clear h3;go_wp2_with (refine Q0c rfl _ _ 26 rfl Tryz.Q0x rfl rfl HR2.out rfl rfl ?_ ?_; (focus (intro u hu; simp only [List.mem_cons,List.not_mem_nil,or_false] at hu; rcases hu with rfl | rfl | rfl <;> rfl)); intro w8 hb8 hl8 ho8)
        refine bodyPost_ret (Q0t Tryz.results28 rfl hb8 Tryz.Q2s Tryz.Q0x rfl rfl) rfl ?_;exact ⟨_,by rw [HF.out]; rfl,by rw [HF.out]; exact Q2v _,Below.trans HX2.out (hl8 _ (Nat.le_refl _))⟩
      . have hyE:y.toList.isEmpty = false:=by rw [List.isEmpty_eq_false_iff]; exact hy
        have HY:=Lib.hid hy;clear hy;go_wp2;clear e2
        go_loopw [9,10] (fun nv jv wq=>∃ (j:Nat) (l:List Int),jv = .int .i64 j /\ j <= NW /\ Z7t ws l j /\ Q0s wq w2.heap.size 3 (.int .i64) nv l /\ Ext w2 wq) (fun _ jv _=>NW - (intOf jv).toNat)
        case atStart=>exact ⟨2,[],rfl,by omega,Y6j ws,Q0s.nil _ _ _ _,Ext.refl _⟩
        case round =>
         obtain ⟨j,l,rfl,hj,hnl,hown,hxq⟩:=hrel;have hll:l.length <= 5000:=by have:=hnl.2; omega
         have HN:=Lib.hid hnl;have HXQ:=Lib.hid hxq;clear hnl
         by_cases hlj:j < NW
         . have hjI:(j:Int) < NW:=by omega
           have hjw:j < ws.length:=by rw [HNW.out]; exact hlj
           have d0:=hxq.cell (HCW2.out j hjw);have hzs:=HWX.out ws[j] (List.getElem_mem hjw)
           by_cases hok:okR ws[j] = true
           . have HST:=Lib.hid (Z1m HN.out hjw hok)
             obtain ⟨z,hz⟩:∃ z,ws[j] = z:=⟨_,rfl⟩;rw [hz] at d0 hzs HST hok;have HNUM:Hid (∀ w',Calls Tryz.prog 86 #[.string z] w' fun e w''=>e = .returned (.tuple #[.int .i64 (X5j z),.bool true]) /\ w' = w''):=Lib.hid fun w'=>by
              have h:=X5l w' z (by omega)
              rw [hok] at h;exact h
             clear hz hzs hok hlj hjw;go_wp2_with (first | (go_at_call 86; refine (HNUM.out _).mono ?_; rintro e w9 ⟨rfl,hw9⟩; subst hw9) | (at_builtin; refine wpList_append_own _ rfl _ _ 40 rfl (w2.heap.size) 3 i0 (.int .i64 0) 1 8 Tryz.underlying40 hi hz0 hz1 hz2 rfl (by decide) _ _ _ rfl (World.ownsRow.alloc hown _) ⟨wr.heap.size,0,none⟩ 1 1 [.int .i64 (X5j z)] rfl rfl ?_ ?_ ?_ ?_ ?_ ?_; exact Q5k _ _ _; (focus (simp [Value.oneCell'])); (focus (unfold maxLen; omega)); (focus omega); (focus (have:=hxq.size; simp at this ⊢; omega)); intro v' w1 hown' hgrow _))
             have hx':=Q3u hxq hown (Nat.le_refl _) hgrow;go_wp2;go_roundw
             case rel=>exact ⟨j + 1,_,by go_num,by omega,HST.out,Q0s.snoc hown',hx'⟩
             case measure=>simp [intOf]; omega
           . have HF:=Lib.hid (HE.out.trans (HL.out.1 (Z3a HFY.out (by have h:=Z6h HN.out hjw hok; rw [HFYW.out] at h; exact h))))
             obtain ⟨z,hz⟩:∃ z,ws[j] = z:=⟨_,rfl⟩;rw [hz] at d0 hzs hok;have HNUM:Hid (∀ w',Calls Tryz.prog 86 #[.string z] w' fun e w''=>e = .returned (.tuple #[.int .i64 (X5j z),.bool false]) /\ w' = w''):=Lib.hid fun w'=>by
              have h:=X5l w' z (by omega)
              rw [Bool.not_eq_true] at hok;rw [hok] at h;exact h
             have HRQ:=Lib.hid (HR2.out.ext hxq);have HXF:=Lib.hid (HX2.out.trans hxq);clear hz hzs hok hlj hjw hown;go_wp2_with (first | (go_at_call 86; refine (HNUM.out _).mono ?_; rintro e w9 ⟨rfl,rfl⟩) | (refine Q0c rfl _ _ 26 rfl Tryz.Q0x rfl rfl HRQ.out rfl rfl ?_ ?_; (focus (intro u hu; simp only [List.mem_cons,List.not_mem_nil,or_false] at hu; rcases hu with rfl | rfl | rfl <;> rfl)); intro w8 hb8 hl8 ho8))
             refine bodyPost_ret (Q0t Tryz.results28 rfl hb8 Tryz.Q2s Tryz.Q0x rfl rfl) rfl ?_;exact ⟨_,by rw [HF.out]; rfl,by rw [HF.out]; exact Q2v _,Below.trans HXF.out (hl8 _ (Nat.le_refl _))⟩
         . have hjI:¬ (j:Int) < NW:=by omega
           have hne:=Z4u HN.out (by rw [HNW.out]; exact hlj)
           have hl2:l.length = NW - 2:=by have:=HN.out.2; omega
           rw [HFYW.out] at hne
           rcases l with _ | ⟨n,ns⟩
           . simp at hl2; omega
           have HRR:Hid (Q0z t1 (dat x) = Q2e t1 (dat f) (dat y) n ns):=Lib.hid (Z7k HFY.out HY.out hne);obtain ⟨N2,hN2⟩:∃ N,(n :: ns).length = N:=⟨_,rfl⟩;have hN3:N2 = ns.length + 1:=by rw [<- hN2]; rfl
           obtain ⟨gn,cn,hsh,HN0⟩:=Z1e hown hN2;have HOW:=Lib.hid (by rw [hsh] at hown; exact hown)
           have HSV:=Lib.hid hsh;rw [hsh];obtain ⟨wz,rfl⟩:∃ X,X = wr:=⟨_,rfl⟩;have HPT:=Lib.hid (HP2.out.ext hxq);have HBW:=Lib.hid (HB2.out.trans (hxq.below hO2));have HBX:=Lib.hid HBW.out;have HNM:=Lib.hid (hxq.cell E2.out);have HRQ:=Lib.hid (HR2.out.ext hxq);have HXF:=Lib.hid (HX2.out.trans hxq);have hMw:O <= wz.heap.size:=Nat.le_trans hO2 hxq.size;have hO9:O <= O:=Nat.le_refl _;have f0:=hxq.cell E1.out;have c2:=HPT.out.blk.cell 1;have c3:=HPT.out.blk.cell 2;simp only [Go.Tw.gA,Go.Tw.gB,Go.Tw.gC] at c2 c3;have hn9:(0:Int) < N2:=by omega
           have hn7:¬ N2 = 0:=by omega
           have hn8:(1:Int) <= N2:=by omega
           have hnn:ns.length <= 5000:=by simp only [List.length_cons] at hll; omega
           have HNL9:=Lib.hid hN3;have HNS:Hid (ns.length <= 10000):=Lib.hid (by omega)
           have HSH:Hid (Short y):=Lib.hid (by have:=HWX.out y (by rw [HFYW.out]; simp); unfold Short; omega)
           have hdr:=(Ext.refl wz).drew;clear hown hxq hne hN2 hN3 hl2 hll hsh
           by_cases hf1:f = Q5n
           . by_cases hq1:N2 = 1
             . have hl1:((N2:Int) == 1) = true:=by rw [beq_iff_eq]; omega
               by_cases hq2:nc = 0
               . have hz1:((nc:Int) == 0) = true:=by rw [beq_iff_eq]; omega
                 by_cases hq3:ng = 0
                 . have hz2:((ng:Int) == 0) = true:=by rw [beq_iff_eq]; omega
                   have HYS:Hid (Q0z t1 (dat x) = some ⟨t1.basics ++ [⟨y,n⟩],t1.causes,t1.gates⟩):=Lib.hid (by rw [HRR.out]; exact X7g hf1 (List.length_eq_zero_iff.1 (by have:=HNL9.out; omega)) (List.length_eq_zero_iff.1 (by have:=HNC.out; omega)) (List.length_eq_zero_iff.1 (by have:=HNG.out; omega)))
                   obtain rfl:f = ⟨#[98,97,115,105,99]⟩:=hf1;clear hq1 hq2 hq3;go_wp2
                   skip
                   refine Flow.Q3x [.p,.w,.p,.p,.w,.p,.p,.w,.p,.w,.last,.last,.last] [0,1,2,3,4,5,6,7,8,9,10,11,12] [[],[0],[],[2],[2,3],[],[5],[5,6],[2,3,4,5,6,7],[2,3,4,5,6,7,8],[0,1,2,3,4,5,6,7,8,9],[0,1,2,3,4,5,6,7,8,9,10],[0,1,2,3,4,5,6,7,8,9,10,11]] [10,11,12]
                    [.c 0 (.pointer (some ⟨O,0,none⟩)),.c 1 (.slice Ab t1.basics.length cb),.c 2 (.slice (some ⟨bw,0,none⟩) NW cw),.c 3 (.pointer (some ⟨bw,1,none⟩)),.c 4 (.string y),.c 5 (.slice (some ⟨gn,0,none⟩) N2 cn),.c 6 (.pointer (some ⟨gn,0,none⟩)),.c 7 (.int .i64 n),.c 8 (.agg #[.string y,.int .i64 n]),⟨fun v wz=>(fun v w'=>∃ g,v 9 = .slice (some ⟨g,0,none⟩) 1 1 /\ Blk w' g 48 #[.string y,.int .i64 n]) v wz,by rintro v a b hx ⟨g,h1,h2⟩; exact ⟨g,h1,h2.ext hx⟩⟩,.none,.none,.none]
                    [fun v w1 w'=>Q1o w' O 48 2 X0z (v 10) (t1.basics ++ [⟨y,n⟩]) /\ Keep 48 w1 w' /\ Below O w1 w',fun v w1 w'=>v 11 = .pointer (some ⟨O,0,none⟩) /\ Q1o w' O 48 2 X0z (v 10) (t1.basics ++ [⟨y,n⟩]) /\ Keep 48 w1 w' /\ Below O w1 w',fun v w1 w'=>∃ x wm,Q1o wm O 48 2 X0z x (t1.basics ++ [⟨y,n⟩]) /\ Keep 48 w1 wm /\ Below O w1 wm /\ w' = wm.setCell ⟨O,0,none⟩ x] (by kernel_rfl) rfl (by kernel_rfl) ⟨?g0,?g1,?g2,?g3,?g4,?g5,?g6,?g7,?g8,?g9,?g10,?g11,?g12,trivial⟩ ?post
                   case g0 | g2 | g5=>
                    intro v w1 hx;intro bb hbb;subst hbb;refine ⟨_,fun w=>?_,rfl⟩;go_simp
                   case g1 | g4 | g7=>
                    intro v w1 hx;(repeat intro (zq:v _ = _));intro bb hbb;subst hbb;have n0:w1.cell? ⟨O,0,none⟩ = some (.slice Ab t1.basics.length cb):=(HPT.out.blk.ext (hdr.trans hx)).cell 0;have n1:w1.cell? ⟨bw,1,none⟩ = some (.string y):=(hdr.trans hx).cell HNM.out;have n2:w1.cell? ⟨gn,0,none⟩ = some (.int .i64 n):=(hdr.trans hx).cell HN0.out;intro K hK;go_simp;exact hK _ _ (Ext.refl _) rfl
                   case g3 | g6 | g8=>
                    intro v w1 hx;(repeat intro (zq:v _ = _));intro bb hbb;subst hbb;refine ⟨_,fun w=>?_,rfl⟩;go_simp
                   case g9=>
                    intro v w1 hx;(repeat intro (zq:v _ = _));intro bb hbb;subst hbb;intro K hK;go_simp;exact hK _ _ (Ext.box _ _) ⟨_,rfl,Blk.made _ _ _⟩
                   case g10=>
                    intro v w1 hx (q0:v 0 = _) (q1:v 1 = _) (q2:v 2 = _) (q3:v 3 = _) (q4:v 4 = _) (q5:v 5 = _) (q6:v 6 = _) (q7:v 7 = _) (q8:v 8 = _) (q9:(fun v w'=>∃ g,v 9 = .slice (some ⟨g,0,none⟩) 1 1 /\ Blk w' g 48 #[.string y,.int .i64 n]) v w1);intro wl hT;obtain rfl:wl = w1:=hT;intro bb hbb;intro K hK;obtain ⟨g,hg10,hb10⟩:=q9;have o1:bb.eval (.tmp 87) = .slice Ab t1.basics.length cb:=by rw [hbb]; dsimp only; (try simp (discharger:=decide) only [eval_put_ne]); rw [Q0a (by simp only [size_put]; exact (by decide:87 < 163))]; exact q1
                    have o2:bb.eval (.tmp 95) = .slice (some ⟨g,0,none⟩) 1 1:=by rw [hbb]; dsimp only; (try simp (discharger:=decide) only [eval_put_ne]); rw [Q0a (by simp only [size_put]; exact (by decide:95 < 163))]; exact hg10
                    have hxx:=hdr.trans hx;exact Q4h _ _ 22 rfl O 48 ib (.agg #[.string emp,.int .i64 0]) 2 24 Tryz.underlying22 hib hzb0 hzb1 hzb2 rfl (by decide) X0z Q9y _ (t1.basics) ⟨y,n⟩ o1 (.inl (HPT.out.bas.below hxx)) ⟨g,0,none⟩ o2 (Q4s hb10) (by intro u hu; simp only [X0z,List.mem_cons,List.not_mem_nil,or_false] at hu; rcases hu with rfl | rfl <;> rfl) (by omega) (by decide) (by have:=hxx.size; omega) (fun v' w' h1 h2 h3=>hK _ _ ⟨h1,h2,h3⟩)
                   case g11=>
                    intro v w1 hx (q0:v 0 = _) (q1:v 1 = _) (q2:v 2 = _) (q3:v 3 = _) (q4:v 4 = _) (q5:v 5 = _) (q6:v 6 = _) (q7:v 7 = _) (q8:v 8 = _) _;intro wl hT;replace hT:(fun v w1 w'=>Q1o w' O 48 2 X0z (v 10) (t1.basics ++ [⟨y,n⟩]) /\ Keep 48 w1 w' /\ Below O w1 w') v w1 wl:=hT;intro bb hbb;subst hbb;intro K hK;go_simp;exact hK _ _ ⟨rfl,hT⟩
                   case g12=>
                    intro v w1 hx (q0:v 0 = _) (q1:v 1 = _) (q2:v 2 = _) (q3:v 3 = _) (q4:v 4 = _) (q5:v 5 = _) (q6:v 6 = _) (q7:v 7 = _) (q8:v 8 = _) _;intro wl hT;replace hT:(fun v w1 w'=>v 11 = .pointer (some ⟨O,0,none⟩) /\ Q1o w' O 48 2 X0z (v 10) (t1.basics ++ [⟨y,n⟩]) /\ Keep 48 w1 w' /\ Below O w1 w') v w1 wl:=hT;intro bb hbb;intro K hK;obtain ⟨hT0,hT1,hT2,hT3⟩:=hT;have hxx:=hdr.trans hx;obtain ⟨bp,cp,hsh,_⟩:=hT1.shape;have o1:bb.eval (.tmp 97) = .pointer (some ⟨O,0,none⟩):=by rw [hbb]; dsimp only; (try simp (discharger:=decide) only [eval_put_ne]); rw [Q0a (by simp only [size_put]; exact (by decide:97 < 163))]; exact hT0
                    have o2:bb.eval (.tmp 96) = v 10:=by rw [hbb]; dsimp only; (try simp (discharger:=decide) only [eval_put_ne]); rw [Q0a (by simp only [size_put]; exact (by decide:96 < 163))]
                    have hbl:=hT2 _ _ _ (by decide) (HPT.out.blk.ext hxx)
                    exact Q2l _ _ rfl Tryz.X4s (g:=O) (k:=0) o1 o2 (by rw [hsh]; rfl) (by rw [hsh]; rfl) hbl (by show 0 < 3; omega) (fun v'=>hK _ _ ⟨v 10,wl,hT1,hT2,hT3,rfl⟩)
                   case post =>
                    intro v w1 hx;(iterate 9 intro (zq:v _ = _));intro (q9:(fun v w'=>∃ g,v 9 = .slice (some ⟨g,0,none⟩) 1 1 /\ Blk w' g 48 #[.string y,.int .i64 n]) v w1);intro w2 hE;replace hE:(fun v w1 w'=>∃ x wm,Q1o wm O 48 2 X0z x (t1.basics ++ [⟨y,n⟩]) /\ Keep 48 w1 wm /\ Below O w1 wm /\ w' = wm.setCell ⟨O,0,none⟩ x) v w1 w2:=hE;simp only [Flow.acts,Act.put];go_simp;obtain ⟨x9,wm,hom,hkm,hbm,rfl⟩:=hE;have hxx:=hdr.trans hx;have hfin:=X0y.J0g HOK.out (HPT.out.ext hxx) hom hkm HSH.out;have HFIN:=Lib.hid hfin;have HBF:=Lib.hid (Below.setCell ((HBX.out.trans (hxx.below (by omega))).trans hbm) (p:=⟨O,0,none⟩) (by show O <= O; omega) x9)
                    clear hom hkm hbm hfin hxx hx hdr q9;(repeat clear zq);go_wp2;go_roundw
                    case rel=>exact ⟨k + 1,_,by go_num,by omega,⟨_,_,_,_,_,HFIN.out⟩,HBF.out,HL.out.2 _ HYS.out⟩
                    case measure=>simp [intOf]; omega
                 . have hz2:((ng:Int) == 0) = false:=by rw [beq_eq_false_iff_ne]; omega
                   have HF:=Lib.hid (HE.out.trans (HL.out.1 (by rw [HRR.out]; exact X1b hf1 (fun h=>hq3 (by have:=HNG.out; rw [h.2.2] at this; exact this)))))
                   obtain rfl:f = ⟨#[98,97,115,105,99]⟩:=hf1;clear hq1 hq2 hq3;go_wp2_with (refine Q0c rfl _ _ 26 rfl Tryz.Q0x rfl rfl HRQ.out rfl rfl ?_ ?_; (focus (intro u hu; simp only [List.mem_cons,List.not_mem_nil,or_false] at hu; rcases hu with rfl | rfl | rfl <;> rfl)); intro w8 hb8 hl8 ho8)
                   refine bodyPost_ret (Q0t Tryz.results28 rfl hb8 Tryz.Q2s Tryz.Q0x rfl rfl) rfl ?_;exact ⟨_,by rw [HF.out]; rfl,by rw [HF.out]; exact Q2v _,Below.trans HXF.out (hl8 _ (Nat.le_refl _))⟩
               . have hz1:((nc:Int) == 0) = false:=by rw [beq_eq_false_iff_ne]; omega
                 have HF:=Lib.hid (HE.out.trans (HL.out.1 (by rw [HRR.out]; exact X1b hf1 (fun h=>hq2 (by have:=HNC.out; rw [h.2.1] at this; exact this)))))
                 obtain rfl:f = ⟨#[98,97,115,105,99]⟩:=hf1;clear hq1 hq2;go_wp2_with (refine Q0c rfl _ _ 26 rfl Tryz.Q0x rfl rfl HRQ.out rfl rfl ?_ ?_; (focus (intro u hu; simp only [List.mem_cons,List.not_mem_nil,or_false] at hu; rcases hu with rfl | rfl | rfl <;> rfl)); intro w8 hb8 hl8 ho8)
                 refine bodyPost_ret (Q0t Tryz.results28 rfl hb8 Tryz.Q2s Tryz.Q0x rfl rfl) rfl ?_;exact ⟨_,by rw [HF.out]; rfl,by rw [HF.out]; exact Q2v _,Below.trans HXF.out (hl8 _ (Nat.le_refl _))⟩
             . have hl1:((N2:Int) == 1) = false:=by rw [beq_eq_false_iff_ne]; omega
               have HF:=Lib.hid (HE.out.trans (HL.out.1 (by rw [HRR.out]; exact X1b hf1 (fun h=>hq1 (by rw [HNL9.out,h.1]; rfl)))))
               obtain rfl:f = ⟨#[98,97,115,105,99]⟩:=hf1;clear hq1;go_wp2_with (refine Q0c rfl _ _ 26 rfl Tryz.Q0x rfl rfl HRQ.out rfl rfl ?_ ?_; (focus (intro u hu; simp only [List.mem_cons,List.not_mem_nil,or_false] at hu; rcases hu with rfl | rfl | rfl <;> rfl)); intro w8 hb8 hl8 ho8)
               refine bodyPost_ret (Q0t Tryz.results28 rfl hb8 Tryz.Q2s Tryz.Q0x rfl rfl) rfl ?_;exact ⟨_,by rw [HF.out]; rfl,by rw [HF.out]; exact Q2v _,Below.trans HXF.out (hl8 _ (Nat.le_refl _))⟩
           . have e1:=Q4d X8d hf1
             by_cases hf2:f = Q6h
             . by_cases hq3:ng = 0
               . have hz2:((ng:Int) == 0) = true:=by rw [beq_iff_eq]; omega
                 have HYS:Hid (Q0z t1 (dat x) = some ⟨t1.basics,t1.causes ++ [⟨y,n,ns⟩],t1.gates⟩):=Lib.hid (by rw [HRR.out]; exact X7o hf2 (List.length_eq_zero_iff.1 (by have:=HNG.out; omega)))
                 obtain rfl:f = ⟨#[99,97,117,115,101]⟩:=hf2;clear hf1 hq3 e1;go_wp2
                 skip
                 refine Flow.Q3x [.p,.w,.p,.p,.w,.p,.p,.w,.p,.p,.p,.w,.last,.last,.last] [0,1,2,3,4,5,6,7,8,9,10,11,12,13,14] [[],[0],[],[2],[2,3],[],[5],[5,6],[],[8],[2,3,4,5,6,7,8,9],[2,3,4,5,6,7,8,9,10],[0,1,2,3,4,5,6,7,8,9,10,11],[0,1,2,3,4,5,6,7,8,9,10,11,12],[0,1,2,3,4,5,6,7,8,9,10,11,12,13]] [12,13,14]
                  [.c 0 (.pointer (some ⟨O,1,none⟩)),.c 1 (.slice Ac nc cc),.c 2 (.slice (some ⟨bw,0,none⟩) NW cw),.c 3 (.pointer (some ⟨bw,1,none⟩)),.c 4 (.string y),.c 5 (.slice (some ⟨gn,0,none⟩) N2 cn),.c 6 (.pointer (some ⟨gn,0,none⟩)),.c 7 (.int .i64 n),.c 8 (.slice (some ⟨gn,0,none⟩) N2 cn),⟨fun v wz=>(fun v w'=>Q2j w' (v 9) ns) v wz,fun _ _ _ hx h=>Q2j.ext h hx⟩,⟨fun v wz=>(fun v w'=>v 10 = .agg #[.string y,.int .i64 n,v 9]) v wz,by intro _ _ _ _ h; exact h⟩,⟨fun v wz=>(fun v w'=>∃ g,v 11 = .slice (some ⟨g,0,none⟩) 1 1 /\ Blk w' g 50 (enc3 (y,n,v 9)).toArray) v wz,by rintro v a b hx ⟨g,h1,h2⟩; exact ⟨g,h1,h2.ext hx⟩⟩,.none,.none,.none]
                  [fun v w1 w'=>Q1o w' O 50 3 enc3 (v 12) (LC ++ [(y,n,v 9)]) /\ Keep 50 w1 w' /\ Below O w1 w',fun v w1 w'=>v 13 = .pointer (some ⟨O,1,none⟩) /\ Q1o w' O 50 3 enc3 (v 12) (LC ++ [(y,n,v 9)]) /\ Keep 50 w1 w' /\ Below O w1 w',fun v w1 w'=>∃ x wm,Q1o wm O 50 3 enc3 x (LC ++ [(y,n,v 9)]) /\ Keep 50 w1 wm /\ Below O w1 wm /\ w' = wm.setCell ⟨O,1,none⟩ x] (by kernel_rfl) rfl (by kernel_rfl) ⟨?g0,?g1,?g2,?g3,?g4,?g5,?g6,?g7,?g8,?g9,?g10,?g11,?g12,?g13,?g14,trivial⟩ ?post
                 case g0 | g2 | g5 | g8=>
                  intro v w1 hx;intro bb hbb;subst hbb;refine ⟨_,fun w=>?_,rfl⟩;go_simp
                 case g1 | g4 | g7=>
                  intro v w1 hx;(repeat intro (zq:v _ = _));intro bb hbb;subst hbb;have n0:w1.cell? ⟨O,1,none⟩ = some (.slice Ac nc cc):=(HPT.out.blk.ext (hdr.trans hx)).cell 1;have n1:w1.cell? ⟨bw,1,none⟩ = some (.string y):=(hdr.trans hx).cell HNM.out;have n2:w1.cell? ⟨gn,0,none⟩ = some (.int .i64 n):=(hdr.trans hx).cell HN0.out;intro K hK;go_simp;exact hK _ _ (Ext.refl _) rfl
                 case g3 | g6=>
                  intro v w1 hx;(repeat intro (zq:v _ = _));intro bb hbb;subst hbb;refine ⟨_,fun w=>?_,rfl⟩;go_simp
                 case g9=>
                  intro v w1 hx;(repeat intro (zq:v _ = _));intro bb hbb;have o1:bb.eval (.tmp 116) = .slice (some ⟨gn,0,none⟩) N2 cn:=by rw [hbb]; dsimp only; (try simp (discharger:=decide) only [eval_put_ne]); rw [Q0a (by simp only [size_put]; exact (by decide:116 < 163))]; assumption
                  exact Q8k rfl o1 (HOW.out.below (hdr.trans hx)) HNL9.out HNS.out
                 case g10=>
                  intro v w1 hx (q2:v 2 = _) (q3:v 3 = _) (q4:v 4 = _) (q5:v 5 = _) (q6:v 6 = _) (q7:v 7 = _) (q8:v 8 = _) (q9:(fun v w'=>Q2j w' (v 9) ns) v w1);intro bb hbb;obtain ⟨s9,c9,e9,_⟩:=q9;have o1:bb.eval (.tmp 112) = .string y:=by rw [hbb]; dsimp only; (try simp (discharger:=decide) only [eval_put_ne]); rw [Q0a (by simp only [size_put]; exact (by decide:112 < 163))]; exact q4
                  have o2:bb.eval (.tmp 115) = .int .i64 n:=by rw [hbb]; dsimp only; (try simp (discharger:=decide) only [eval_put_ne]); rw [Q0a (by simp only [size_put]; exact (by decide:115 < 163))]; exact q7
                  have o3:bb.eval (.tmp 117) = v 9:=by rw [hbb]; dsimp only; (try simp (discharger:=decide) only [eval_put_ne]); rw [Q0a (by simp only [size_put]; exact (by decide:117 < 163))]
                  rw [e9] at o3;exact ⟨_,fun w=>Q4j _ (.tmp 112) (.tmp 115) (.tmp 117) rfl o1 o2 o3 (fun w=>X3u w _ _ _ _ _),by show Value.agg #[.string y,.int .i64 n,.slice s9 _ c9] = Value.agg #[.string y,.int .i64 n,v 9]; rw [e9]⟩
                 case g11=>
                  intro v w1 hx (q2:v 2 = _) (q3:v 3 = _) (q4:v 4 = _) (q5:v 5 = _) (q6:v 6 = _) (q7:v 7 = _) (q8:v 8 = _) (q9:(fun v w'=>Q2j w' (v 9) ns) v w1) (q10:(fun v w'=>v 10 = .agg #[.string y,.int .i64 n,v 9]) v w1);intro bb hbb;intro K hK;obtain ⟨s9,c9,e9,_⟩:=q9;have o1:bb.eval (.tmp 118) = .agg #[.string y,.int .i64 n,v 9]:=by rw [hbb]; dsimp only; (try simp (discharger:=decide) only [eval_put_ne]); rw [Q0a (by simp only [size_put]; exact (by decide:118 < 163))]; exact q10
                  rw [e9] at o1;have hbl:Blk (w1.alloc (.cells (Value.agg #[.string y,.int .i64 n,.slice s9 ns.length c9]).cells 50)) w1.heap.size 50 (enc3 (y,n,v 9)).toArray:=by rw [e9]; exact Blk.made _ _ _
                  exact Q2y 23 50 (.tmp 118) rfl o1 (X8t w1 _ _ _ _ _) (hK _ _ (Ext.box _ _) ⟨_,rfl,hbl⟩)
                 case g12=>
                  intro v w1 hx (q0:v 0 = _) (q1:v 1 = _) (q2:v 2 = _) (q3:v 3 = _) (q4:v 4 = _) (q5:v 5 = _) (q6:v 6 = _) (q7:v 7 = _) (q8:v 8 = _) (q9:(fun v w'=>Q2j w' (v 9) ns) v w1) _ (q11:(fun v w'=>∃ g,v 11 = .slice (some ⟨g,0,none⟩) 1 1 /\ Blk w' g 50 (enc3 (y,n,v 9)).toArray) v w1);intro wl hT;obtain rfl:wl = w1:=hT;intro bb hbb;intro K hK;obtain ⟨s9,c9,e9,_⟩:=q9;obtain ⟨g,hg10,hb10⟩:=q11;have o1:bb.eval (.tmp 109) = .slice Ac nc cc:=by rw [hbb]; dsimp only; (try simp (discharger:=decide) only [eval_put_ne]); rw [Q0a (by simp only [size_put]; exact (by decide:109 < 163))]; exact q1
                  have o2:bb.eval (.tmp 119) = .slice (some ⟨g,0,none⟩) 1 1:=by rw [hbb]; dsimp only; (try simp (discharger:=decide) only [eval_put_ne]); rw [Q0a (by simp only [size_put]; exact (by decide:119 < 163))]; exact hg10
                  have hxx:=hdr.trans hx;exact Q4h _ _ 23 rfl O 50 ic (.agg #[.string emp,.int .i64 0,.slice none 0 0]) 3 48 Tryz.underlying23 hic hzc0 hzc1 hzc2 rfl (by decide) enc3 Q0u _ (LC) (y,n,v 9) o1 (.inl (HPT.out.cau.below hxx)) ⟨g,0,none⟩ o2 (Q4s hb10) (by rw [e9]; exact Q9r) (by have:=HLN.out; omega) (by decide) (by have:=hxx.size; omega) (fun v' w' h1 h2 h3=>hK _ _ ⟨h1,h2,h3⟩)
                 case g13=>
                  intro v w1 hx (q0:v 0 = _) (q1:v 1 = _) (q2:v 2 = _) (q3:v 3 = _) (q4:v 4 = _) (q5:v 5 = _) (q6:v 6 = _) (q7:v 7 = _) (q8:v 8 = _) _ _ _;intro wl hT;replace hT:(fun v w1 w'=>Q1o w' O 50 3 enc3 (v 12) (LC ++ [(y,n,v 9)]) /\ Keep 50 w1 w' /\ Below O w1 w') v w1 wl:=hT;intro bb hbb;subst hbb;intro K hK;go_simp;exact hK _ _ ⟨rfl,hT⟩
                 case g14=>
                  intro v w1 hx (q0:v 0 = _) (q1:v 1 = _) (q2:v 2 = _) (q3:v 3 = _) (q4:v 4 = _) (q5:v 5 = _) (q6:v 6 = _) (q7:v 7 = _) (q8:v 8 = _) _ _ _;intro wl hT;replace hT:(fun v w1 w'=>v 13 = .pointer (some ⟨O,1,none⟩) /\ Q1o w' O 50 3 enc3 (v 12) (LC ++ [(y,n,v 9)]) /\ Keep 50 w1 w' /\ Below O w1 w') v w1 wl:=hT;intro bb hbb;intro K hK;obtain ⟨hT0,hT1,hT2,hT3⟩:=hT;have hxx:=hdr.trans hx;obtain ⟨bp,cp,hsh,_⟩:=hT1.shape;have o1:bb.eval (.tmp 121) = .pointer (some ⟨O,1,none⟩):=by rw [hbb]; dsimp only; (try simp (discharger:=decide) only [eval_put_ne]); rw [Q0a (by simp only [size_put]; exact (by decide:121 < 163))]; exact hT0
                  have o2:bb.eval (.tmp 120) = v 12:=by rw [hbb]; dsimp only; (try simp (discharger:=decide) only [eval_put_ne]); rw [Q0a (by simp only [size_put]; exact (by decide:120 < 163))]
                  have hbl:=hT2 _ _ _ (by decide) (HPT.out.blk.ext hxx)
                  exact Q2l _ _ rfl Tryz.X4t (g:=O) (k:=1) o1 o2 (by rw [hsh]; rfl) (by rw [hsh]; rfl) hbl (by show 1 < 3; omega) (fun v'=>hK _ _ ⟨v 12,wl,hT1,hT2,hT3,rfl⟩)
                 case post =>
                  intro v w1 hx;(iterate 9 intro (zq:v _ = _));intro (q9:(fun v w'=>Q2j w' (v 9) ns) v w1) (q10:(fun v w'=>v 10 = .agg #[.string y,.int .i64 n,v 9]) v w1) (q11:(fun v w'=>∃ g,v 11 = .slice (some ⟨g,0,none⟩) 1 1 /\ Blk w' g 50 (enc3 (y,n,v 9)).toArray) v w1);intro w2 hE;replace hE:(fun v w1 w'=>∃ x wm,Q1o wm O 50 3 enc3 x (LC ++ [(y,n,v 9)]) /\ Keep 50 w1 wm /\ Below O w1 wm /\ w' = wm.setCell ⟨O,1,none⟩ x) v w1 w2:=hE;simp only [Flow.acts,Act.put];go_simp;obtain ⟨x9,wm,hom,hkm,hbm,rfl⟩:=hE;have hxx:=hdr.trans hx;have hfin:=X0y.J0f HOK.out (HPT.out.ext hxx) hom q9 hkm HSH.out;have HFIN:=Lib.hid hfin;have HBF:=Lib.hid (Below.setCell ((HBX.out.trans (hxx.below (by omega))).trans hbm) (p:=⟨O,1,none⟩) (by show O <= O; omega) x9)
                  clear hom hkm hbm hfin hxx hx hdr q9 q10 q11;(repeat clear zq);go_wp2;go_roundw
                  case rel=>exact ⟨k + 1,_,by go_num,by omega,⟨_,_,_,_,_,HFIN.out⟩,HBF.out,HL.out.2 _ HYS.out⟩
                  case measure=>simp [intOf]; omega
               . have hz2:((ng:Int) == 0) = false:=by rw [beq_eq_false_iff_ne]; omega
                 have HF:=Lib.hid (HE.out.trans (HL.out.1 (by rw [HRR.out]; exact X0c hf2 (fun h=>hq3 (by have:=HNG.out; rw [h] at this; exact this)))))
                 obtain rfl:f = ⟨#[99,97,117,115,101]⟩:=hf2;clear hf1 hq3 e1;go_wp2_with (refine Q0c rfl _ _ 26 rfl Tryz.Q0x rfl rfl HRQ.out rfl rfl ?_ ?_; (focus (intro u hu; simp only [List.mem_cons,List.not_mem_nil,or_false] at hu; rcases hu with rfl | rfl | rfl <;> rfl)); intro w8 hb8 hl8 ho8)
                 refine bodyPost_ret (Q0t Tryz.results28 rfl hb8 Tryz.Q2s Tryz.Q0x rfl rfl) rfl ?_;exact ⟨_,by rw [HF.out]; rfl,by rw [HF.out]; exact Q2v _,Below.trans HXF.out (hl8 _ (Nat.le_refl _))⟩
             . have e2:=Q4d X8c hf2
               by_cases hf3:f = X0w
               . have HYS:Hid (Q0z t1 (dat x) = some ⟨t1.basics,t1.causes,t1.gates ++ [⟨y,n,ns⟩]⟩):=Lib.hid (by rw [HRR.out]; exact Y1h hf3)
                 obtain rfl:f = ⟨#[103,97,116,101]⟩:=hf3;clear hf1 hf2 e1 e2;go_wp2
                 skip
                 refine Flow.Q3x [.p,.w,.p,.p,.w,.p,.p,.w,.p,.p,.p,.w,.last,.last,.last] [0,1,2,3,4,5,6,7,8,9,10,11,12,13,14] [[],[0],[],[2],[2,3],[],[5],[5,6],[],[8],[2,3,4,5,6,7,8,9],[2,3,4,5,6,7,8,9,10],[0,1,2,3,4,5,6,7,8,9,10,11],[0,1,2,3,4,5,6,7,8,9,10,11,12],[0,1,2,3,4,5,6,7,8,9,10,11,12,13]] [12,13,14]
                  [.c 0 (.pointer (some ⟨O,2,none⟩)),.c 1 (.slice Ag ng cg),.c 2 (.slice (some ⟨bw,0,none⟩) NW cw),.c 3 (.pointer (some ⟨bw,1,none⟩)),.c 4 (.string y),.c 5 (.slice (some ⟨gn,0,none⟩) N2 cn),.c 6 (.pointer (some ⟨gn,0,none⟩)),.c 7 (.int .i64 n),.c 8 (.slice (some ⟨gn,0,none⟩) N2 cn),⟨fun v wz=>(fun v w'=>Q2j w' (v 9) ns) v wz,fun _ _ _ hx h=>Q2j.ext h hx⟩,⟨fun v wz=>(fun v w'=>v 10 = .agg #[.string y,.int .i64 n,v 9]) v wz,by intro _ _ _ _ h; exact h⟩,⟨fun v wz=>(fun v w'=>∃ g,v 11 = .slice (some ⟨g,0,none⟩) 1 1 /\ Blk w' g 97 (enc3 (y,n,v 9)).toArray) v wz,by rintro v a b hx ⟨g,h1,h2⟩; exact ⟨g,h1,h2.ext hx⟩⟩,.none,.none,.none]
                  [fun v w1 w'=>Q1o w' O 97 3 enc3 (v 12) (LG ++ [(y,n,v 9)]) /\ Keep 97 w1 w' /\ Below O w1 w',fun v w1 w'=>v 13 = .pointer (some ⟨O,2,none⟩) /\ Q1o w' O 97 3 enc3 (v 12) (LG ++ [(y,n,v 9)]) /\ Keep 97 w1 w' /\ Below O w1 w',fun v w1 w'=>∃ x wm,Q1o wm O 97 3 enc3 x (LG ++ [(y,n,v 9)]) /\ Keep 97 w1 wm /\ Below O w1 wm /\ w' = wm.setCell ⟨O,2,none⟩ x] (by kernel_rfl) rfl (by kernel_rfl) ⟨?g0,?g1,?g2,?g3,?g4,?g5,?g6,?g7,?g8,?g9,?g10,?g11,?g12,?g13,?g14,trivial⟩ ?post
                 case g0 | g2 | g5 | g8=>
                  intro v w1 hx;intro bb hbb;subst hbb;refine ⟨_,fun w=>?_,rfl⟩;go_simp
                 case g1 | g4 | g7=>
                  intro v w1 hx;(repeat intro (zq:v _ = _));intro bb hbb;subst hbb;have n0:w1.cell? ⟨O,2,none⟩ = some (.slice Ag ng cg):=(HPT.out.blk.ext (hdr.trans hx)).cell 2;have n1:w1.cell? ⟨bw,1,none⟩ = some (.string y):=(hdr.trans hx).cell HNM.out;have n2:w1.cell? ⟨gn,0,none⟩ = some (.int .i64 n):=(hdr.trans hx).cell HN0.out;intro K hK;go_simp;exact hK _ _ (Ext.refl _) rfl
                 case g3 | g6=>
                  intro v w1 hx;(repeat intro (zq:v _ = _));intro bb hbb;subst hbb;refine ⟨_,fun w=>?_,rfl⟩;go_simp
                 case g9=>
                  intro v w1 hx;(repeat intro (zq:v _ = _));intro bb hbb;have o1:bb.eval (.tmp 134) = .slice (some ⟨gn,0,none⟩) N2 cn:=by rw [hbb]; dsimp only; (try simp (discharger:=decide) only [eval_put_ne]); rw [Q0a (by simp only [size_put]; exact (by decide:134 < 163))]; assumption
                  exact Q8k rfl o1 (HOW.out.below (hdr.trans hx)) HNL9.out HNS.out
                 case g10=>
                  intro v w1 hx (q2:v 2 = _) (q3:v 3 = _) (q4:v 4 = _) (q5:v 5 = _) (q6:v 6 = _) (q7:v 7 = _) (q8:v 8 = _) (q9:(fun v w'=>Q2j w' (v 9) ns) v w1);intro bb hbb;obtain ⟨s9,c9,e9,_⟩:=q9;have o1:bb.eval (.tmp 130) = .string y:=by rw [hbb]; dsimp only; (try simp (discharger:=decide) only [eval_put_ne]); rw [Q0a (by simp only [size_put]; exact (by decide:130 < 163))]; exact q4
                  have o2:bb.eval (.tmp 133) = .int .i64 n:=by rw [hbb]; dsimp only; (try simp (discharger:=decide) only [eval_put_ne]); rw [Q0a (by simp only [size_put]; exact (by decide:133 < 163))]; exact q7
                  have o3:bb.eval (.tmp 135) = v 9:=by rw [hbb]; dsimp only; (try simp (discharger:=decide) only [eval_put_ne]); rw [Q0a (by simp only [size_put]; exact (by decide:135 < 163))]
                  rw [e9] at o3;exact ⟨_,fun w=>Q4j _ (.tmp 130) (.tmp 133) (.tmp 135) rfl o1 o2 o3 (fun w=>X5b w _ _ _ _ _),by show Value.agg #[.string y,.int .i64 n,.slice s9 _ c9] = Value.agg #[.string y,.int .i64 n,v 9]; rw [e9]⟩
                 case g11=>
                  intro v w1 hx (q2:v 2 = _) (q3:v 3 = _) (q4:v 4 = _) (q5:v 5 = _) (q6:v 6 = _) (q7:v 7 = _) (q8:v 8 = _) (q9:(fun v w'=>Q2j w' (v 9) ns) v w1) (q10:(fun v w'=>v 10 = .agg #[.string y,.int .i64 n,v 9]) v w1);intro bb hbb;intro K hK;obtain ⟨s9,c9,e9,_⟩:=q9;have o1:bb.eval (.tmp 136) = .agg #[.string y,.int .i64 n,v 9]:=by rw [hbb]; dsimp only; (try simp (discharger:=decide) only [eval_put_ne]); rw [Q0a (by simp only [size_put]; exact (by decide:136 < 163))]; exact q10
                  rw [e9] at o1;have hbl:Blk (w1.alloc (.cells (Value.agg #[.string y,.int .i64 n,.slice s9 ns.length c9]).cells 97)) w1.heap.size 97 (enc3 (y,n,v 9)).toArray:=by rw [e9]; exact Blk.made _ _ _
                  exact Q2y 24 97 (.tmp 136) rfl o1 (Y0i w1 _ _ _ _ _) (hK _ _ (Ext.box _ _) ⟨_,rfl,hbl⟩)
                 case g12=>
                  intro v w1 hx (q0:v 0 = _) (q1:v 1 = _) (q2:v 2 = _) (q3:v 3 = _) (q4:v 4 = _) (q5:v 5 = _) (q6:v 6 = _) (q7:v 7 = _) (q8:v 8 = _) (q9:(fun v w'=>Q2j w' (v 9) ns) v w1) _ (q11:(fun v w'=>∃ g,v 11 = .slice (some ⟨g,0,none⟩) 1 1 /\ Blk w' g 97 (enc3 (y,n,v 9)).toArray) v w1);intro wl hT;obtain rfl:wl = w1:=hT;intro bb hbb;intro K hK;obtain ⟨s9,c9,e9,_⟩:=q9;obtain ⟨g,hg10,hb10⟩:=q11;have o1:bb.eval (.tmp 127) = .slice Ag ng cg:=by rw [hbb]; dsimp only; (try simp (discharger:=decide) only [eval_put_ne]); rw [Q0a (by simp only [size_put]; exact (by decide:127 < 163))]; exact q1
                  have o2:bb.eval (.tmp 137) = .slice (some ⟨g,0,none⟩) 1 1:=by rw [hbb]; dsimp only; (try simp (discharger:=decide) only [eval_put_ne]); rw [Q0a (by simp only [size_put]; exact (by decide:137 < 163))]; exact hg10
                  have hxx:=hdr.trans hx;exact Q4h _ _ 24 rfl O 97 ig (.agg #[.string emp,.int .i64 0,.slice none 0 0]) 3 48 Tryz.underlying24 hig hzg0 hzg1 hzg2 rfl (by decide) enc3 Q0u _ (LG) (y,n,v 9) o1 (.inl (HPT.out.gat.below hxx)) ⟨g,0,none⟩ o2 (Q4s hb10) (by rw [e9]; exact Q9r) (by have:=HLN.out; omega) (by decide) (by have:=hxx.size; omega) (fun v' w' h1 h2 h3=>hK _ _ ⟨h1,h2,h3⟩)
                 case g13=>
                  intro v w1 hx (q0:v 0 = _) (q1:v 1 = _) (q2:v 2 = _) (q3:v 3 = _) (q4:v 4 = _) (q5:v 5 = _) (q6:v 6 = _) (q7:v 7 = _) (q8:v 8 = _) _ _ _;intro wl hT;replace hT:(fun v w1 w'=>Q1o w' O 97 3 enc3 (v 12) (LG ++ [(y,n,v 9)]) /\ Keep 97 w1 w' /\ Below O w1 w') v w1 wl:=hT;intro bb hbb;subst hbb;intro K hK;go_simp;exact hK _ _ ⟨rfl,hT⟩
                 case g14=>
                  intro v w1 hx (q0:v 0 = _) (q1:v 1 = _) (q2:v 2 = _) (q3:v 3 = _) (q4:v 4 = _) (q5:v 5 = _) (q6:v 6 = _) (q7:v 7 = _) (q8:v 8 = _) _ _ _;intro wl hT;replace hT:(fun v w1 w'=>v 13 = .pointer (some ⟨O,2,none⟩) /\ Q1o w' O 97 3 enc3 (v 12) (LG ++ [(y,n,v 9)]) /\ Keep 97 w1 w' /\ Below O w1 w') v w1 wl:=hT;intro bb hbb;intro K hK;obtain ⟨hT0,hT1,hT2,hT3⟩:=hT;have hxx:=hdr.trans hx;obtain ⟨bp,cp,hsh,_⟩:=hT1.shape;have o1:bb.eval (.tmp 139) = .pointer (some ⟨O,2,none⟩):=by rw [hbb]; dsimp only; (try simp (discharger:=decide) only [eval_put_ne]); rw [Q0a (by simp only [size_put]; exact (by decide:139 < 163))]; exact hT0
                  have o2:bb.eval (.tmp 138) = v 12:=by rw [hbb]; dsimp only; (try simp (discharger:=decide) only [eval_put_ne]); rw [Q0a (by simp only [size_put]; exact (by decide:138 < 163))]
                  have hbl:=hT2 _ _ _ (by decide) (HPT.out.blk.ext hxx)
                  exact Q2l _ _ rfl Tryz.X8f (g:=O) (k:=2) o1 o2 (by rw [hsh]; rfl) (by rw [hsh]; rfl) hbl (by show 2 < 3; omega) (fun v'=>hK _ _ ⟨v 12,wl,hT1,hT2,hT3,rfl⟩)
                 case post =>
                  intro v w1 hx;(iterate 9 intro (zq:v _ = _));intro (q9:(fun v w'=>Q2j w' (v 9) ns) v w1) (q10:(fun v w'=>v 10 = .agg #[.string y,.int .i64 n,v 9]) v w1) (q11:(fun v w'=>∃ g,v 11 = .slice (some ⟨g,0,none⟩) 1 1 /\ Blk w' g 97 (enc3 (y,n,v 9)).toArray) v w1);intro w2 hE;replace hE:(fun v w1 w'=>∃ x wm,Q1o wm O 97 3 enc3 x (LG ++ [(y,n,v 9)]) /\ Keep 97 w1 wm /\ Below O w1 wm /\ w' = wm.setCell ⟨O,2,none⟩ x) v w1 w2:=hE;simp only [Flow.acts,Act.put];go_simp;obtain ⟨x9,wm,hom,hkm,hbm,rfl⟩:=hE;have hxx:=hdr.trans hx;have hfin:=X0y.J0d HOK.out (HPT.out.ext hxx) hom q9 hkm HSH.out;have HFIN:=Lib.hid hfin;have HBF:=Lib.hid (Below.setCell ((HBX.out.trans (hxx.below (by omega))).trans hbm) (p:=⟨O,2,none⟩) (by show O <= O; omega) x9)
                  clear hom hkm hbm hfin hxx hx hdr q9 q10 q11;(repeat clear zq);go_wp2;go_roundw
                  case rel=>exact ⟨k + 1,_,by go_num,by omega,⟨_,_,_,_,_,HFIN.out⟩,HBF.out,HL.out.2 _ HYS.out⟩
                  case measure=>simp [intOf]; omega
               . have e3:=Q4d Y1q hf3
                 have HF:=Lib.hid (HE.out.trans (HL.out.1 (by rw [HRR.out]; exact Y0y hf1 hf2 hf3)))
                 clear hf1 hf2 hf3;go_wp2_with (refine Q0c rfl _ _ 26 rfl Tryz.Q0x rfl rfl HRQ.out rfl rfl ?_ ?_; (focus (intro u hu; simp only [List.mem_cons,List.not_mem_nil,or_false] at hu; rcases hu with rfl | rfl | rfl <;> rfl)); intro w8 hb8 hl8 ho8)
                 refine bodyPost_ret (Q0t Tryz.results28 rfl hb8 Tryz.Q2s Tryz.Q0x rfl rfl) rfl ?_;exact ⟨_,by rw [HF.out]; rfl,by rw [HF.out]; exact Q2v _,Below.trans HXF.out (hl8 _ (Nat.le_refl _))⟩
  . have hltI:¬ (k:Int) < NL:=by omega
    obtain rfl:k = NL:=by omega
    have HZ:=Lib.hid (HE.out.trans (Z2d HPR.out (by rw [<- HLL.out,HNL.out]) HPX.out))
    have hk1:k < k + 1:=by omega
    have hk2:¬ k + 1 <= k:=by omega
    have HTR:=Lib.hid HPR0.out;have HTT:Hid (Q5t wr (.slice Ab t1.basics.length cb) (.slice Ac nc cc) (.slice Ag ng cg) t1):=Lib.hid (HPR0.out.tree (by have:=HTK.out; omega))
    have HTF:Hid (∀ w',Keep 26 wr w' -> Q5t w' (.slice Ab t1.basics.length cb) (.slice Ac nc cc) (.slice Ag ng cg) t1):=Lib.hid fun w' hk=>HPR0.out.Z9s Z7s.ok (by have:=HTK.out; omega) hk
    have HBO:=Lib.hid HPR0.out.blk;clear hlt
    by_cases hx0:x.toList = []
    . have hxE:x.toList.isEmpty = true:=by rw [hx0]; rfl
      have hx1:dat x = []:=by rw [toList_nil_iff_emptyBytes] at hx0; rw [hx0]; rfl
      have HZ2:=Lib.hid (HZ.out.trans (if_pos hx1));clear hx1;go_wp2_with (refine Q0i rfl _ 26 rfl Tryz.Q2s Tryz.Q0x rfl HBO.out rfl ?_);refine (Q5y wr _ t1 ⟨_,_,_,rfl,HTT.out⟩).mono ?_;rintro e w2 ⟨rfl,hx2⟩;have HB2:=Lib.hid (HBO.out.ext hx2);have HKX:Hid (Keep 26 wr w2):=Lib.hid (Keep.ext hx2);have HR2:=Lib.hid (HR.out.ext hx2);have HX2:=Lib.hid (HXR.out.trans hx2);clear hx2
      by_cases he:t1.err = 0
      . have hne:(t1.err != 0) = false:=by simp [he]
        have HF:Hid (Q3s s = (t1,0,0)):=Lib.hid (by rw [HZ2.out,if_pos he])
        obtain ⟨E,hE⟩:∃ E,t1.err = E:=⟨_,rfl⟩;rw [hE] at hne ⊢;clear he hE;go_wp2_with (first | (refine Q0i rfl _ 26 rfl Tryz.Q2s Tryz.Q0x rfl HB2.out rfl ?_) | (refine Q0c rfl _ _ 26 rfl Tryz.Q0x rfl rfl HR2.out rfl rfl ?_ ?_; (focus (intro u hu; simp only [List.mem_cons,List.not_mem_nil,or_false] at hu; rcases hu with rfl | rfl | rfl <;> rfl)); intro w8 hb8 hl8 ho8))
        refine bodyPost_ret (Q0t Tryz.results28 rfl hb8 Tryz.Q2s Tryz.Q0x rfl rfl) rfl ?_;have hkp:=Keep.store HR2.out ho8;exact ⟨_,by rw [HF.out]; rfl,by rw [HF.out]; exact ⟨_,_,_,rfl,HTF.out _ (HKX.out.trans hkp)⟩,Below.trans HX2.out (hl8 _ (Nat.le_refl _))⟩
      . have hne:(t1.err != 0) = true:=by simp [he]
        have HF:Hid (Q3s s = (noT,(k:Int),t1.err)):=Lib.hid (by rw [HZ2.out,if_neg he])
        obtain ⟨E,hE⟩:∃ E,t1.err = E:=⟨_,rfl⟩;rw [hE] at hne HF ⊢;clear he hE;go_wp2_with (refine Q0c rfl _ _ 26 rfl Tryz.Q0x rfl rfl HR2.out rfl rfl ?_ ?_; (focus (intro u hu; simp only [List.mem_cons,List.not_mem_nil,or_false] at hu; rcases hu with rfl | rfl | rfl <;> rfl)); intro w8 hb8 hl8 ho8)
        refine bodyPost_ret (Q0t Tryz.results28 rfl hb8 Tryz.Q2s Tryz.Q0x rfl rfl) rfl ?_;exact ⟨_,by rw [HF.out]; rfl,by rw [HF.out]; exact Q2v _,Below.trans HX2.out (hl8 _ (Nat.le_refl _))⟩
    . have hxE:x.toList.isEmpty = false:=by rw [List.isEmpty_eq_false_iff]; exact hx0
      have hx1:¬ dat x = []:=fun e=>hx0 (by rw [toList_nil_iff_emptyBytes]; exact Q8p e)
      have HF:=Lib.hid (HZ.out.trans (if_neg hx1));clear hx1;go_wp2_with (refine Q0c rfl _ _ 26 rfl Tryz.Q0x rfl rfl HR.out rfl rfl ?_ ?_; (focus (intro u hu; simp only [List.mem_cons,List.not_mem_nil,or_false] at hu; rcases hu with rfl | rfl | rfl <;> rfl)); intro w8 hb8 hl8 ho8)
      refine bodyPost_ret (Q0t Tryz.results28 rfl hb8 Tryz.Q2s Tryz.Q0x rfl rfl) rfl ?_;exact ⟨_,by rw [HF.out]; rfl,by rw [HF.out]; exact Q2v _,Below.trans HXR.out (hl8 _ (Nat.le_refl _))⟩
end Go.Proofs
