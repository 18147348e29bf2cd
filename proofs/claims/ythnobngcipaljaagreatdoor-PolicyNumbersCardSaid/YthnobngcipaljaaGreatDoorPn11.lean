/- Contract of the reference: coded. Contracts of the reference: Short, ShortPolicy, ShortGroups. A list of lists that a call makes and appends to. Lists of closings. A range over an iterator that hands over values which lie in memory: the iterator's contract says of each value what holds of it where it is handed over; the law of the statement over such a contract (no round is left early). Contracts: count; all, as an iterator that hands over lists of closings. Turning a rule of a policy changes what is done after its history alone: plain lists, no program is in sight. -/
import Derived.Test.YthnobngcipaljaaGreatDoorPn10
import Derived.Deep.DeepMust
import Derived.Deep.DeepCutAuto
import Derived.Test.YthnobngcipaljaaGreatDoorPn03
import Derived.Test.YthnobngcipaljaaGreatDoorPn05
import Derived.Test.YthnobngcipaljaaGreatDoorPn06
import Derived.RangeFuncNested
import Derived.RangeFuncBound
import Derived.RangeFuncCalls
import Derived.RangeFuncLeaves
import Derived.RangeFuncFrom
import Derived.Test.YthnobngcipaljaaGreatDoorPn08
import Derived.Shelf.Abstract
import Derived.Shelf.RegionOpen
import Derived.OwnWalkIn
import Derived.TacticsInMore
import Derived.LoopNIn
import Derived.LoopIn
set_option maxRecDepth 1000000
set_option maxHeartbeats 64000000
set_option linter.unusedVariables false
set_option linter.unusedSimpArgs false
set_option linter.constructorNameAsVariable false
open Go.Lib (hid)
namespace Go.Proofs
open Go.RowKit Go.Tw Go.Flow
def codeF (n T k i:Nat):Bool:=if T - k <= i then n.testBit (T - 1 - i) else false
def codeCells (n T k:Nat):Array Value:=((List.range T).map fun i=>Value.bool (codeF n T k i)).toArray
theorem Q4o (n T k:Nat):(codeCells n T k).size=T:=by simp [codeCells]
theorem Y1p (n T:Nat):madeCells #[.bool false] (T * 1)=codeCells n T 0:=by
 apply Array.ext_getElem?
 intro i
 by_cases hi:i < T
 . rw [Array.getElem?_eq_getElem (by rw [size_madeCells]; omega),Array.getElem?_eq_getElem (by rw [Q4o]; exact hi)]
   unfold madeCells codeCells codeF;simp [hi,Nat.mod_one];omega
 . rw [Array.getElem?_eq_none (by rw [size_madeCells]; omega),Array.getElem?_eq_none (by rw [Q4o]; omega)]
theorem Y0p (n:Nat) {T k:Nat} (hk:k < T):(codeCells n T k).setIfInBounds (T - 1 - k) (.bool (n.testBit k))=codeCells n T (k + 1):=by
 apply Array.ext_getElem?
 intro i;rw [Array.getElem?_setIfInBounds]
 by_cases hi:i < T
 . by_cases he:T - 1 - k=i
   . subst he
     rw [if_pos rfl,if_pos (by rw [Q4o]; exact hi)]
     unfold codeCells codeF;simp [hi];rw [decide_eq_true (by omega),Bool.true_and]
     congr 1
     omega
   . rw [if_neg he]
     unfold codeCells codeF;simp only [List.getElem?_toArray,List.getElem?_map,List.getElem?_range hi,Option.map_some]
     congr 2
     by_cases h1:T - k <= i
     . rw [if_pos h1,if_pos (by omega)]
     . rw [if_neg h1,if_neg (by omega)]
 . rw [if_neg (by omega),Array.getElem?_eq_none (by rw [Q4o]; omega),Array.getElem?_eq_none (by rw [Q4o]; omega)]
theorem Y5b (n T:Nat):codeCells n T T=((Q5g n T).map Value.bool).toArray:=by
 unfold codeCells Q5g codeF;rw [List.map_map]
 congr 1
 refine List.map_congr_left fun i _=>?_;simp
theorem Z7g {w:World} {g:Nat} {T:TypeId} {l:List Bool} (h:Blk w g T (l.map Value.bool).toArray) (hl:l.length <= 1000):Q0r w (.slice (some ⟨g,0,none⟩) l.length l.length) l:=by
 refine ⟨fun j=>.bool (l.getD j false),⟨some ⟨g,0,none⟩,l.length,rfl,by omega,Nat.le_refl _,fun j hj=>⟨g,0,rfl,?_⟩⟩,fun j hj=>?_⟩
 . have hj':j < l.length:=by omega
   rw [h.cell]; simp [hj']
 . simp [hj]
theorem J0t (n k:Nat):(((n / 2 ^ k:Nat):Int).tmod 2 == 1)=n.testBit k:=by
 rw [Nat.testBit_eq_decide_div_mod_eq,show ((n / 2 ^ k:Nat):Int).tmod 2=((n / 2 ^ k % 2:Nat):Int) from (Int.ofNat_tmod _ 2).symm]
 by_cases h:n / 2 ^ k % 2=1
 . rw [h]; rfl
 . rw [decide_eq_false h,beq_eq_false_iff_ne]; omega
theorem Z7w (n k:Nat):((n / 2 ^ k:Nat):Int).tdiv 2=((n / 2 ^ (k + 1):Nat):Int):=by
 rw [show ((n / 2 ^ k:Nat):Int).tdiv 2=((n / 2 ^ k / 2:Nat):Int) from (Int.ofNat_tdiv _ 2).symm,Nat.div_div_eq_div_mul,<- Nat.pow_succ]
theorem Tryz.Z2j (w:World):(sizeOf 4).run Tryz.prog w=.ok 1 w:=by kernel_rfl
theorem Z3q (w:World) (n T:Nat) (hn:n < 2 ^ 62) (hT:T <= 12) :
    Calls Tryz.prog 130 #[.int .i64 (n:Int),.int .i64 (T:Int)] w fun e w'=>∃ x,e=.returned x /\ Q0r w' x (Q5g n T) /\ Ext w w':=by
 obtain ⟨i0,hi,hz0,hz1,hz2⟩:=info_parts Tryz.X7o;go_enter Tryz.func130,Tryz.ntmps130;go_upto_region 1 with fail
 go_step
 refine Q1s rfl ?_;go_simp;refine Q1s rfl ?_;refine Z4e (.tmp 7) _ _ rfl i0 _ 1 1 Tryz.underlying82 hi hz0 hz1 hz2 T rfl (by omega) (by decide) ?_
 have hb:=Blk.made w 4 (madeCells (Value.bool false).cells (T * 1));have hx:=Ext.box w (.cells (madeCells (Value.bool false).cells (T * 1)) 4);obtain ⟨W,hW⟩:∃ X,w.alloc (.cells (madeCells (Value.bool false).cells (T * 1)) 4)=X:=⟨_,rfl⟩;rw [hW] at hb hx ⊢;rw [show madeCells (Value.bool false).cells (T * 1)=codeCells n T 0 from Y1p n T] at hb
 have HB:=hid hb;have HX:=hid hx;obtain ⟨g,hg⟩:∃ x,w.heap.size=x:=⟨_,rfl⟩;rw [hg] at HB ⊢;clear hW hb hx;go_wp2
 go_loopw [0,6] (fun c t wr=>∃ (k:Nat),k <= T /\ t=.int .i64 ((T:Int) - 1 - (k:Int)) /\ c=.int .i64 ((n / 2 ^ k:Nat):Int) /\ Blk wr g 4 (codeCells n T k) /\ Below g W wr) (fun _ t _=>((intOf t) + 1).toNat)
 case atStart=>exact ⟨0,Nat.zero_le _,by go_num,by simp,HB.out,Below.refl _ _⟩
 case round =>
  obtain ⟨k,hk,rfl,rfl,hblk,hbel⟩:=hrel;have HBL:=hid hblk;have HBE:=hid hbel;clear hblk hbel
  by_cases hlt:k < T
  . have h0:(0:Int) <= (T:Int) - 1 - (k:Int):=by omega
    have h1:(T:Int) - 1 - (k:Int) < (T:Int):=by omega
    have h2:((T:Int) - 1 - (k:Int)).toNat=T - 1 - k:=by omega
    have hcb:=J0t n k;have hch:=Z7w n k;have hnk:n / 2 ^ k <= n:=Nat.div_le_self _ _;have HSU:=hid (Y0p n hlt);have hc2b:n / 2 ^ (k + 1) <= n / 2 ^ k:=by rw [Nat.pow_succ,<- Nat.div_div_eq_div_mul]; exact Nat.div_le_self _ _
    obtain ⟨c,hc⟩:∃ x,n / 2 ^ k=x:=⟨_,rfl⟩;obtain ⟨c2,hc2⟩:∃ x,n / 2 ^ (k + 1)=x:=⟨_,rfl⟩;rw [hc] at hcb hch hnk hc2b ⊢;rw [hc2] at hch hc2b;have HC2:=hid hc2;obtain ⟨q,hq⟩:∃ x,n.testBit k=x:=⟨_,rfl⟩;rw [hq] at hcb HSU;have hcb2:((c:Int) % 2 == 1)=q:=by rw [<- hcb,Int.tmod_eq_emod_of_nonneg (by omega)]
    have hwc:wrap64 (c2:Int)=c2:=by unfold wrap64; omega
    clear hc hc2 hq
    go_light
    have hcell:wr.cell? ⟨g,T - 1 - k,none⟩=some (.bool (codeF n T k (T - 1 - k))):=by
     rw [HBL.out.cell];unfold codeCells;simp [show T - 1 - k < T by omega]
    have hfr:=HBL.out.frozen (T - 1 - k);obtain ⟨b0,hb0⟩:∃ x,codeF n T k (T - 1 - k)=x:=⟨_,rfl⟩;rw [hb0] at hcell;clear hb0 hcb;have HSET:=hid (HBL.out.set (T - 1 - k) (.bool q));have HSEB:=hid (HBE.out.setCell (p:=⟨g,T - 1 - k,none⟩) (Nat.le_refl _) (.bool q));have HWC:=hid hwc;clear hc2b hnk hn hwc;go_wp2;go_roundw
    case rel=>exact ⟨k + 1,by omega,congrArg (Value.int .i64) (by omega),by rw [HC2.out,HWC.out],by rw [<- HSU.out]; exact HSET.out,HSEB.out⟩
    case measure=>simp [intOf]; omega
  . have hke:k=T:=by omega
    subst hke;have h0:¬ (0:Int) <= (k:Int) - 1 - (k:Int):=by omega
    have HF:Hid (Blk wr g 4 ((Q5g n k).map Value.bool).toArray):=hid (by rw [<- Y5b]; exact HBL.out)
    have hcl:(Q5g n k).length=k:=X0h n k;go_wp2;go_ret;refine ⟨_,rfl,?_,Below.trans HX.out (HBE.out.mono (by omega))⟩
    have h:=Z7g HF.out (by omega)
    rw [hcl] at h;exact h
end Go.Proofs
namespace Go.Proofs
open Go.RowKit Go.Tw Go.Flow
def J1l (P:Prop) (w w':World) (e:Ending):Prop:=∃ q,e=.returned (.bool q) /\ (q=true ↔ P) /\ Ext w w'
theorem qno {P:Prop} {w w':World} (h:¬ P) (hx:Ext w w'):J1l P w w' (.returned (.bool false)):=⟨false,rfl,⟨fun k=>(by cases k),fun k=>absurd k h⟩,hx⟩
theorem J7o {P:Prop} {w w':World} (h:P) (hx:Ext w w'):J1l P w w' (.returned (.bool true)):=⟨true,rfl,⟨fun _=>h,fun _=>rfl⟩,hx⟩
def X5d (s:Q0b) (i:Nat):Prop:=(Q1o s.members i).size <= 60 /\ (Q0c s.members i).length <= 8 /\ (Q0z s.members i).length <= 8 /\ (Q1f s.members i).length <= 8
structure Q3x (s:Q0b):Prop where
 ships:s.ships.length <= 7
 members:s.members.length <= 9
 each:∀ i,i < s.members.length -> X5d s i
theorem Z5p (w:World) (v:Value) (s:Q0b) (hv:Q0f w v s) :
    Calls Tryz.prog 15 #[v] w fun e w'=>J1l (Q3x s) w w' e:=by
 obtain ⟨a,b,rfl,h2⟩:=hv;obtain ⟨A,capa,rfl,hla,-,-⟩:=h2.ships.opened;obtain ⟨B,capb,rfl,hlb,-,hc⟩:=h2.members.opened;have HC:=hid hc;clear h2 hc;have HN1:Hid (¬ s.ships.length <= 7 -> ¬ Q3x s):=hid (fun h hs=>h hs.ships);have HN2:Hid (¬ s.members.length <= 9 -> ¬ Q3x s):=hid (fun h hs=>h hs.members);have HN3:Hid (∀ i,i < s.members.length -> ¬ X5d s i -> ¬ Q3x s):=hid (fun i hi h hs=>h (hs.each i hi))
 by_cases h7:7 < s.ships.length
 . have h7I:(7:Int) < s.ships.length:=by omega
   have HF:=hid (HN1.out (by omega))
   clear h7;go_enter Tryz.func15,Tryz.ntmps15;go_wp2;go_ret;exact qno HF.out (Ext.box _ _)
 have h7I:¬ (7:Int) < s.ships.length:=by omega
 by_cases h9:9 < s.members.length
 . have h9I:(9:Int) < s.members.length:=by omega
   have HF:=hid (HN2.out (by omega))
   clear h9 h7;go_enter Tryz.func15,Tryz.ntmps15;go_wp2;go_ret;exact qno HF.out (Ext.box _ _)
 have h9I:¬ (9:Int) < s.members.length:=by omega
 have HOK:Hid ((∀ i,i < s.members.length -> X5d s i) -> Q3x s):=hid (fun h=>⟨by omega,by omega,h⟩)
 clear h7 h9;go_enter Tryz.func15,Tryz.ntmps15;go_wp2_with fail;change Code.wp _ _ _ _ (w.alloc (.cells #[.int .i64 s.limit,.slice A s.ships.length capa,.slice B s.members.length capb] 25));obtain ⟨W,hWW,k0,HXW,eW⟩:=Q1u w 25 #[.int .i64 s.limit,.slice A s.ships.length capa,.slice B s.members.length capb];rw [hWW];clear hWW;have K0:=hid k0;clear k0 h7I h9I
 go_loopw [3] (fun i wr=>∃ k:Nat,k <= s.members.length /\ i=.int .i64 k /\ (∀ j,j < k -> X5d s j) /\ Ext W wr) (fun i _=>s.members.length - (intOf i).toNat)
 case atStart=>exact ⟨0,Nat.zero_le _,rfl,fun j hj=>absurd hj (Nat.not_lt_zero j),Ext.refl _⟩
 case round =>
  obtain ⟨k,hk,rfl,hall,hxr⟩:=hrel;have HALL:=hid hall;have c2:=(K0.out.ext hxr).cell 2;simp only [Go.Tw.gA,Go.Tw.gB,Go.Tw.gC] at c2;have HXR:=hid hxr;clear hall hxr
  by_cases hlt:k < s.members.length
  . have hkI:(k:Int) < s.members.length:=by omega
    obtain ⟨bm,off,x,y,z,rfl,-,e0,e1,e2,e3,e4,hx,hy,hz,-⟩:=HC.out k hlt;obtain ⟨X,capx,rfl,-,-,-⟩:=hx.opened;obtain ⟨Y,capy,rfl,-,-,-⟩:=hy.opened;obtain ⟨Z,capz,rfl,-,-,-⟩:=hz.opened;replace e0:=(HXW.out.trans HXR.out).cell e0;replace e1:=(HXW.out.trans HXR.out).cell e1;replace e2:=(HXW.out.trans HXR.out).cell e2;replace e3:=(HXW.out.trans HXR.out).cell e3;replace e4:=(HXW.out.trans HXR.out).cell e4;have HSA:Hid (X5d s k ↔ (Q1o s.members k).size <= 60 /\ (Q0c s.members k).length <= 8 /\ (Q0z s.members k).length <= 8 /\ (Q1f s.members k).length <= 8):=hid Iff.rfl;have HNK:=hid (HN3.out k hlt);obtain ⟨nm,hnm⟩:∃ x,Q1o s.members k=x:=⟨_,rfl⟩;obtain ⟨wt,hwt⟩:∃ x,Q0k s.members k=x:=⟨_,rfl⟩;obtain ⟨n1,hn1⟩:∃ x,(Q0c s.members k).length=x:=⟨_,rfl⟩;obtain ⟨n2,hn2⟩:∃ x,(Q0z s.members k).length=x:=⟨_,rfl⟩;obtain ⟨n3,hn3⟩:∃ x,(Q1f s.members k).length=x:=⟨_,rfl⟩;rw [hnm] at e0 HSA;rw [hwt] at e1;rw [hn1] at e2 HSA;rw [hn2] at e3 HSA;rw [hn3] at e4 HSA;clear hx hy hz hnm hwt hn1 hn2 hn3
    by_cases g0:60 < nm.size
    . have g0I:(60:Int) < (nm.size:Int):=by omega
      have HF:=hid (HNK.out (fun h=>by have:=(HSA.out.1 h).1; omega))
      clear g0
      go_light
      go_wp2;go_ret;exact qno HF.out (Ext.trans HXW.out (Ext.trans HXR.out (Ext.box _ _)))
    have g0I:¬ (60:Int) < (nm.size:Int):=by omega
    by_cases g1:8 < n1
    . have g1I:(8:Int) < (n1:Int):=by omega
      have HF:=hid (HNK.out (fun h=>by have:=(HSA.out.1 h).2.1; omega))
      clear g0 g1
      go_light
      go_wp2;go_ret;exact qno HF.out (Ext.trans HXW.out (Ext.trans HXR.out (Ext.box _ _)))
    have g1I:¬ (8:Int) < (n1:Int):=by omega
    by_cases g2:8 < n2
    . have g2I:(8:Int) < (n2:Int):=by omega
      have HF:=hid (HNK.out (fun h=>by have:=(HSA.out.1 h).2.2.1; omega))
      clear g0 g1 g2
      go_light
      go_wp2;go_ret;exact qno HF.out (Ext.trans HXW.out (Ext.trans HXR.out (Ext.box _ _)))
    have g2I:¬ (8:Int) < (n2:Int):=by omega
    by_cases g3:8 < n3
    . have g3I:(8:Int) < (n3:Int):=by omega
      have HF:=hid (HNK.out (fun h=>by have:=(HSA.out.1 h).2.2.2; omega))
      clear g0 g1 g2 g3
      go_light
      go_wp2;go_ret;exact qno HF.out (Ext.trans HXW.out (Ext.trans HXR.out (Ext.box _ _)))
    have g3I:¬ (8:Int) < (n3:Int):=by omega
    have HT:=hid (HSA.out.2 ⟨by omega,by omega,by omega,by omega⟩)
    clear g0 g1 g2 g3
    go_light
    go_wp2;go_roundw
    case rel=>exact ⟨k + 1,by omega,by go_num,fun j hj=>by
     by_cases hjk:j=k
     . rw [hjk]; exact HT.out
     . exact HALL.out j (by omega),Ext.trans HXR.out (Ext.box _ _)⟩
    case measure=>simp [intOf]; omega
  . have hkI:¬ (k:Int) < s.members.length:=by omega
    have hke:k=s.members.length:=by omega
    subst hke;have HT:=hid (HOK.out HALL.out);go_wp2;go_ret;exact J7o HT.out (HXW.out.trans HXR.out)
structure Y9i (p:List Rul):Prop where
 rules:p.length <= 49
 each:∀ i,i < p.length -> (Q0n p i).length <= 8
theorem X7g (w:World) (v:Value) (p:List Rul) (hv:Q0j w v p) :
    Calls Tryz.prog 27 #[v] w fun e w'=>J1l (Y9i p) w w' e:=by
 obtain ⟨rv,rfl,hr⟩:=hv;obtain ⟨R,capr,rfl,hlr,-,hcr⟩:=hr.opened;have HC:=hid hcr;clear hr hcr;have HN1:Hid (¬ p.length <= 49 -> ¬ Y9i p):=hid (fun h hs=>h hs.rules);have HN3:Hid (∀ i,i < p.length -> ¬ (Q0n p i).length <= 8 -> ¬ Y9i p):=hid (fun i hi h hs=>h (hs.each i hi))
 by_cases h7:49 < p.length
 . have h7I:(49:Int) < p.length:=by omega
   have HF:=hid (HN1.out (by omega))
   clear h7;go_enter Tryz.func27,Tryz.ntmps27;go_wp2;go_ret;exact qno HF.out (Ext.box _ _)
 have h7I:¬ (49:Int) < p.length:=by omega
 have HOK:Hid ((∀ i,i < p.length -> (Q0n p i).length <= 8) -> Y9i p):=hid (fun h=>⟨by omega,h⟩)
 clear h7;go_enter Tryz.func27,Tryz.ntmps27;go_wp2_with fail;change Code.wp _ _ _ _ (w.alloc (.cells #[.slice R p.length capr] 47));obtain ⟨W,hWW,k0,HXW,eW⟩:=Q1u w 47 #[.slice R p.length capr];rw [hWW];clear hWW;have K0:=hid k0;clear k0 h7I
 go_loopw [3] (fun i wr=>∃ k:Nat,k <= p.length /\ i=.int .i64 k /\ (∀ j,j < k -> (Q0n p j).length <= 8) /\ Ext W wr) (fun i _=>p.length - (intOf i).toNat)
 case atStart=>exact ⟨0,Nat.zero_le _,rfl,fun j hj=>absurd hj (Nat.not_lt_zero j),Ext.refl _⟩
 case round =>
  obtain ⟨k,hk,rfl,hall,hxr⟩:=hrel;have HALL:=hid hall;have c0:=(K0.out.ext hxr).cell 0;simp only [Go.Tw.gA,Go.Tw.gB,Go.Tw.gC] at c0;have HXR:=hid hxr;clear hall hxr
  by_cases hlt:k < p.length
  . have hkI:(k:Int) < p.length:=by omega
    obtain ⟨br,off,x,rfl,-,e0,e1,hx⟩:=HC.out k hlt;obtain ⟨X,capx,rfl,-,-,-⟩:=hx.opened;replace e0:=(HXW.out.trans HXR.out).cell e0;have HNK:=hid (HN3.out k hlt);have HID:=hid (rfl:(Q0n p k).length=(Q0n p k).length);obtain ⟨n1,hn1⟩:∃ x,(Q0n p k).length=x:=⟨_,rfl⟩;rw [hn1] at e0 HNK;have HN:=hid hn1;clear hx hn1 e1
    by_cases g1:8 < n1
    . have g1I:(8:Int) < (n1:Int):=by omega
      have HF:=hid (HNK.out (by omega))
      clear g1
      go_light
      go_wp2;go_ret;exact qno HF.out (Ext.trans HXW.out HXR.out)
    have g1I:¬ (8:Int) < (n1:Int):=by omega
    have HT:Hid ((Q0n p k).length <= 8):=hid (by rw [HN.out]; omega)
    clear g1
    go_light
    go_wp2;go_roundw
    case rel=>exact ⟨k + 1,by omega,by go_num,fun j hj=>by
     by_cases hjk:j=k
     . rw [hjk]; exact HT.out
     . exact HALL.out j (by omega),HXR.out⟩
    case measure=>simp [intOf]; omega
  . have hkI:¬ (k:Int) < p.length:=by omega
    have hke:k=p.length:=by omega
    subst hke;have HT:=hid (HOK.out HALL.out);go_wp2;go_ret;exact J7o HT.out (HXW.out.trans HXR.out)
structure J7p (l:List Grp):Prop where
 groups:l.length <= 9
 each:∀ i,i < l.length -> (Q6g l i).length <= 9
end Go.Proofs
namespace Go.Tw
open Go.RowKit Go.Flow
def idV (x:Value):Value:=x
def Reads (w:World) (vs:List Value) (ll:List (List Int)):Prop:=vs.length=ll.length /\ ∀ i,i < ll.length -> Q0e w (vs.getD i undef) (ll.getD i [])
theorem Reads.ext {w w':World} {vs:List Value} {ll:List (List Int)} (h:Reads w vs ll) (hx:Ext w w'):Reads w' vs ll:=⟨h.1,fun i hi=>(h.2 i hi).ext hx⟩
theorem Q0e.below {w w':World} {B:Nat} {v:Value} {l:List Int} (h:Q0e w v l) (hb:Below B w w') (hlow:∀ b o c,v=.slice (some ⟨b,o,none⟩) l.length c -> l ≠ [] -> b < B):Q0e w' v l:=by
 obtain ⟨c,⟨A,cap,hv,hn,hcap,hc⟩,h2⟩:=h;refine ⟨c,⟨A,cap,hv,hn,hcap,fun j hj=>?_⟩,h2⟩;obtain ⟨b,off,hA,h⟩:=hc j hj;refine ⟨b,off,hA,?_⟩;have:b < B:=hlow b off cap (by rw [hv,hA]) (fun e=>by rw [e] at hj; simp at hj)
 exact (hb.cell (p:=⟨b,off + j,none⟩) this).trans h
theorem Reads.snoc {w:World} {vs:List Value} {ll:List (List Int)} {v:Value} {l:List Int} (h:Reads w vs ll) (hv:Q0e w v l):Reads w (vs ++ [v]) (ll ++ [l]):=by
 refine ⟨by simp [h.1],fun i hi=>?_⟩
 rw [List.length_append,List.length_singleton] at hi
 by_cases hlt:i < ll.length
 . have e1:(vs ++ [v]).getD i undef=vs.getD i undef:=by simp [List.getElem?_append_left (show i < vs.length by rw [h.1]; exact hlt)]
   have e2:(ll ++ [l]).getD i []=ll.getD i []:=by simp [List.getElem?_append_left hlt]
   rw [e1,e2]; exact h.2 i hlt
 . have e:i=ll.length:=by omega
   have e1:(vs ++ [v]).getD i undef=v:=by rw [e,<- h.1]; simp
   have e2:(ll ++ [l]).getD i []=l:=by rw [e]; simp
   rw [e1,e2]; exact hv
theorem Y0f {α:Type} (x d:α):∀ (n:Nat) (xs:List α) (i:Nat),n <= xs.length -> (xs.take n ++ [x] ++ xs.drop n).getD i d=if i < n then xs.getD i d else if i=n then x else xs.getD (i - 1) d
 | 0,xs,i,_=>by cases i <;> simp
 | n + 1,[],i,h=>by simp at h
 | n + 1,y :: ys,0,_=>by simp
 | n + 1,y :: ys,i + 1,h=>by
   have:=Y0f x d n ys i (by simpa using h)
   simp only [List.take_succ_cons,List.drop_succ_cons,List.cons_append,List.getD_cons_succ,this]
   by_cases h1:i < n
   . have h1':i + 1 < n + 1:=by omega
     simp only [h1,h1',if_true]
   . have h1':¬ (i + 1 < n + 1):=by omega
     by_cases h2:i=n
     . subst h2
       simp
     . have h2':¬ (i + 1=n + 1):=by omega
       obtain ⟨m,rfl⟩:∃ m,i=m + 1:=⟨i - 1,by omega⟩
       simp only [h1,h1',h2,h2',if_false];simp
theorem Reads.insert {w:World} {vs:List Value} {ll:List (List Int)} {v:Value} {l:List Int} {n:Nat} (h:Reads w vs ll) (hv:Q0e w v l) (hn:n <= ll.length):Reads w (vs.take n ++ [v] ++ vs.drop n) (ll.take n ++ [l] ++ ll.drop n):=by
 have hl:=h.1;refine ⟨by simp [hl],fun i hi=>?_⟩
 rw [Y0f _ _ _ _ _ (by omega),Y0f _ _ _ _ _ hn]
 simp only [List.length_append,List.length_take,List.length_drop,List.length_singleton] at hi
 split
 . exact h.2 i (by omega)
 . split
   . exact hv
   . exact h.2 (i - 1) (by omega)
theorem Q0m.J4x {w:World} {base:Nat} {e:TypeId} {v:Value} {vs:List Value} {ll:List (List Int)} (h:Q0m w base e idV v vs) (hr:Reads w vs ll) (hl:ll.length <= 17592186043904):Q3q w v ll:=by
 refine ⟨fun k=>vs.getD k undef,?_,fun j hj=>?_⟩
 . rw [<- hr.1]
   exact h.row (by rw [hr.1]; exact hl) _ (fun k hk=>by simp [hk,idV])
 . have:=hr.2 j hj
   rw [Q0t _ hj] at this
   simpa using this
theorem Q3q.opened {w:World} {v:Value} {ll:List (List Int)} (h:Q3q w v ll) :
    ∃ A cap,v=.slice A ll.length cap /\ ll.length <= 17592186043904 /\ ll.length <= cap /\ ∀ k,k < ll.length -> ∃ b off m,A=some ⟨b,off,none⟩ /\ b < w.heap.size /\ w.cell? ⟨b,off + k,none⟩=some m /\ Q0e w m (ll.getD k []):=by
 obtain ⟨c,⟨A,cap,hv,hn,hcap,hc⟩,h2⟩:=h;refine ⟨A,cap,hv,hn,hcap,fun k hk=>?_⟩;obtain ⟨b,off,hA,h⟩:=hc k (by omega)
 refine ⟨b,off,c k,hA,World.block_lt_of_cell? w _ h,h,?_⟩;have:=h2 k hk;simp only [Nat.mul_one,Nat.add_zero] at this;rw [Q0t _ hk]; exact this
theorem Q0m.cells {α:Type} {w:World} {base:Nat} {e:TypeId} {enc:α -> Value} {v:Value} {xs:List α} (h:Q0m w base e enc v xs) :
    ∃ A c,v=.slice A xs.length c /\ xs.length <= c /\ (∀ j (hj:j < xs.length),∃ g,A=some ⟨g,0,none⟩ /\ base <= g /\ g < w.heap.size /\ w.cell? ⟨g,0 + j,none⟩=some (enc xs[j])):=by
 obtain ⟨_,h2⟩:=h
 rcases h2 with ⟨rfl,h0⟩ | ⟨g,cap,cur,rfl,hb,hg,hcap,_,_,htake⟩
 . exact ⟨none,0,by rw [h0],by omega,fun j hj=>by omega⟩
 . refine ⟨some ⟨g,0,none⟩,cap,rfl,hcap,fun j hj=>⟨g,rfl,hb,(Array.getElem?_eq_some_iff.1 hg).1,?_⟩⟩
   rw [Nat.zero_add];have h1:=congrArg (fun l=>l[j]?) htake;simp only [Nat.mul_one,List.getElem?_take,hj,if_true,List.getElem?_map,List.getElem?_eq_getElem hj,Option.map_some] at h1;simp only [World.cell?,hg]
   simpa using h1
theorem Q0m.cells2 {α:Type} {w:World} {base:Nat} {e:TypeId} {enc:α -> Value} {v:Value} {xs:List α} (h:Q0m w base e enc v xs) :
    (v=.slice none 0 0 /\ xs=[]) ∨ ∃ g c,v=.slice (some ⟨g,0,none⟩) xs.length c /\ xs.length <= c /\ base <= g /\ g < w.heap.size /\ ∀ j (hj:j < xs.length),w.cell? ⟨g,0 + j,none⟩=some (enc xs[j]):=by
 obtain ⟨_,h2⟩:=h
 rcases h2 with ⟨rfl,h0⟩ | ⟨g,cap,cur,rfl,hb,hg,hcap,_,_,htake⟩
 . exact .inl ⟨rfl,List.length_eq_zero_iff.1 h0⟩
 . refine .inr ⟨g,cap,rfl,hcap,hb,(Array.getElem?_eq_some_iff.1 hg).1,fun j hj=>?_⟩
   rw [Nat.zero_add];have h1:=congrArg (fun l=>l[j]?) htake;simp only [Nat.mul_one,List.getElem?_take,hj,if_true,List.getElem?_map,List.getElem?_eq_getElem hj,Option.map_some] at h1;simp only [World.cell?,hg]
   simpa using h1
theorem Q0m.weaken {α:Type} {w:World} {base base':Nat} {e:TypeId} {enc:α -> Value} {v:Value} {xs:List α} (h:Q0m w base e enc v xs) (hb:base' <= base):Q0m w base' e enc v xs:=by
 obtain ⟨h1,h2⟩:=h;refine ⟨h1,?_⟩
 rcases h2 with h2 | ⟨g,cap,cur,hv,hbg,r⟩
 . exact .inl h2
 . exact .inr ⟨g,cap,cur,hv,Nat.le_trans hb hbg,r⟩
theorem Q0e.one {w:World} {v:Value} {l:List Int} (h:Q0e w v l):(idV v).oneCell'=true:=by
 obtain ⟨A,cap,rfl,_⟩:=h.opened;rfl
theorem Q0e.cells {w:World} {v:Value} {l:List Int} (h:Q0e w v l):v.cells=#[v]:=by
 obtain ⟨A,cap,rfl,_⟩:=h.opened;rfl
theorem Reads.one {w:World} {vs:List Value} {ll:List (List Int)} (h:Reads w vs ll):∀ y ∈ vs,(idV y).oneCell'=true:=by
 intro y hy;obtain ⟨i,hi,rfl⟩:=List.getElem_of_mem hy;have:=h.2 i (by rw [<- h.1]; exact hi)
 rw [Q0t _ hi] at this;exact this.one
def Q2x (w:World) (v:Value) (B:Nat) (e:TypeId):Prop:=∃ g,v=.slice (some ⟨g,0,none⟩) 0 0 /\ B <= g /\ w.heap[g]?=some (.cells #[] e (0,0))
theorem Q2x.ext {w w':World} {v:Value} {B:Nat} {e:TypeId} (h:Q2x w v B e) (hx:Ext w w'):Q2x w' v B e :=
 let ⟨g,h1,h2,h3⟩:=h; ⟨g,h1,h2,(Below.block hx g (Array.getElem?_eq_some_iff.1 h3).1).trans h3⟩
theorem Q2x.made (w:World) (B:Nat) (e:TypeId) (h:B <= w.heap.size):Q2x (w.alloc (.cells #[] e)) (.slice (some ⟨w.heap.size,0,none⟩) 0 0) B e:=⟨_,rfl,h,heap_alloc_new w _⟩
def Q2y (w:World) (v:Value) (x:Value):Prop:=∃ g,v=.slice (some ⟨g,0,none⟩) 1 1 /\ w.cell? ⟨g,0,none⟩=some x
theorem Q2y.ext {w w':World} {v x:Value} (h:Q2y w v x) (hx:Ext w w'):Q2y w' v x:=let ⟨g,h1,h2⟩:=h; ⟨g,h1,hx.cell h2⟩
theorem Q2y.made (w:World) (x:Value) (e:TypeId):Q2y (w.alloc (.cells #[x] e)) (.slice (some ⟨w.heap.size,0,none⟩) 1 1) x:=⟨_,rfl,X2o _ _ _ _⟩
theorem Q2y.src {w:World} {v x:Value} (h:Q2y w v x):Src w idV v [x]:=by
 obtain ⟨g,rfl,hc⟩:=h;refine ⟨_,_,rfl,fun j hj=>⟨g,0,rfl,?_⟩⟩;obtain rfl:j=0:=by rw [List.length_singleton] at hj; omega
 exact hc
theorem X8y {w w1 w2:World} (hx:Ext w.drew w1) (hb:Below w.heap.size w1 w2):Ext w w2:=Below.trans (((Ext.refl w).drew).trans hx) hb
theorem Q0e.made (w:World) (xs:List Int) (e:TypeId) (h:xs.length <= 17592186043904):Q0e (w.alloc (.cells (xs.map (Value.int .i64)).toArray e)) (.slice (some ⟨w.heap.size,0,none⟩) xs.length xs.length) xs:=by
 refine ⟨fun k=>((xs.map (Value.int .i64))[k]?).getD undef,⟨_,_,rfl,h,Nat.le_refl _,fun j hj=>⟨_,0,rfl,?_⟩⟩,fun j hj=>?_⟩
 . have hj':j < xs.length:=by omega
   rw [Nat.zero_add,X2o];simp [hj']
 . simp [hj]
end Go.Tw
namespace Go.Tw
open Go.RowKit
def Q1j (p:Prop):Prop:=p
theorem halted {p:Prop} (h:Q1j p):p:=h
def Q4g:World -> Value -> List (List Bool) -> Prop:=Rows 1 fun w c x=>Q0r w (c 0) x
theorem Q4g.ext {w w':World} {v:Value} {l:List (List Bool)} (h:Q4g w v l) (hx:Ext w w'):Q4g w' v l:=Rows.ext (fun _ _ _ _ hx h=>h.ext hx) h hx
theorem Q4g.opened {w:World} {v:Value} {ll:List (List Bool)} (h:Q4g w v ll) :
    ∃ A cap,v=.slice A ll.length cap /\ ll.length <= 17592186043904 /\ ll.length <= cap /\ ∀ k,k < ll.length -> ∃ b off x,A=some ⟨b,off,none⟩ /\ b < w.heap.size /\
     w.cell? ⟨b,off + k,none⟩=some x /\ Q0r w x (ll.getD k []):=by
 obtain ⟨c,⟨A,cap,hv,hn,hcap,hc⟩,h2⟩:=h;refine ⟨A,cap,hv,by omega,by omega,fun k hk=>?_⟩
 obtain ⟨b,off,hA,h0⟩:=hc k (by omega)
 refine ⟨b,off,c k,hA,World.block_lt_of_cell? w _ h0,h0,?_⟩;have h3:=h2 k hk;rw [Q0t _ hk]
 simpa using h3
def X1j (w:World) (vs:List Value) (ll:List (List Bool)):Prop:=vs.length=ll.length /\ ∀ i,i < ll.length -> Q0r w (vs.getD i undef) (ll.getD i [])
theorem X1j.nil (w:World):X1j w [] []:=⟨rfl,fun _ hi=>absurd hi (Nat.not_lt_zero _)⟩
theorem X1j.ext {w w':World} {vs:List Value} {ll:List (List Bool)} (h:X1j w vs ll) (hx:Ext w w'):X1j w' vs ll:=⟨h.1,fun i hi=>(h.2 i hi).ext hx⟩
theorem X1j.snoc {w:World} {vs:List Value} {ll:List (List Bool)} {v:Value} {l:List Bool} (h:X1j w vs ll) (hv:Q0r w v l):X1j w (vs ++ [v]) (ll ++ [l]):=by
 refine ⟨by simp [h.1],fun i hi=>?_⟩
 by_cases hlt:i < ll.length
 . have e1:(vs ++ [v]).getD i undef=vs.getD i undef:=by simp [List.getD_eq_getElem?_getD,List.getElem?_append_left (show i < vs.length by rw [h.1]; exact hlt)]
   have e2:(ll ++ [l]).getD i []=ll.getD i []:=by simp [List.getD_eq_getElem?_getD,List.getElem?_append_left hlt]
   rw [e1,e2]; exact h.2 i hlt
 . have he:i=ll.length:=by simp at hi; omega
   subst he;have e1:(vs ++ [v]).getD ll.length undef=v:=by rw [<- h.1]; simp
   have e2:(ll ++ [l]).getD ll.length []=l:=by simp
   rw [e1,e2]; exact hv
theorem Q0m.J5s {w:World} {base:Nat} {e:TypeId} {v:Value} {vs:List Value} {ll:List (List Bool)} (h:Q0m w base e idV v vs) (hr:X1j w vs ll) (hl:ll.length <= 17592186043904):Q4g w v ll:=by
 refine ⟨fun k=>vs.getD k undef,?_,fun j hj=>?_⟩
 . rw [<- hr.1]
   exact h.row (by rw [hr.1]; exact hl) _ (fun k hk=>by simp [hk,idV])
 . have:=hr.2 j hj
   rw [Q0t _ hj] at this
   simpa using this
theorem Y2w {α β:Type} {w w':World} {b1 b2:Nat} {T E:TypeId} {enc:α -> Value} {enc':β -> Value} {u v:Value} {l:List α} {us:List β} (h:Q0m w b1 T enc u l) (ho:Q0m w b2 E enc' v us) (hTE:T ≠ E) (hg:w.grownBy w' v.ownBlock):Q0m w' b1 T enc u l:=by
 obtain ⟨h1,h2⟩:=h;refine ⟨h1,?_⟩
 rcases h2 with h2 | ⟨g,cap,cur,hv,hbg,hgl,r⟩
 . exact .inl h2
 . refine .inr ⟨g,cap,cur,hv,hbg,(hg.block g (Array.getElem?_eq_some_iff.1 hgl).1 fun e=>?_).trans hgl,r⟩
   obtain ⟨o1,o2⟩:=ho
   rcases o2 with ⟨rfl,_⟩ | ⟨g',cap',cur',rfl,_,hg',_⟩
   . cases e
   . obtain rfl:g'=g:=by simpa [Value.ownBlock,eq_comm] using e
     rw [hgl] at hg';injection hg' with h;injection h with _ h;exact hTE h
theorem Z2l {α:Type} {w:World} {b g k:Nat} {T S:TypeId} {enc:α -> Value} {u x:Value} {l:List α} {cs:Array Value} (h:Q0m w b T enc u l) (hb:Blk w g S cs) (hTS:S ≠ T):Q0m (w.setCell ⟨g,k,none⟩ x) b T enc u l:=by
 obtain ⟨h1,h2⟩:=h;refine ⟨h1,?_⟩
 rcases h2 with h2 | ⟨g',cap,cur,hv,hbg,hgl,r⟩
 . exact .inl h2
 . refine .inr ⟨g',cap,cur,hv,hbg,?_,r⟩
   rw [Q3h w ⟨g,k,none⟩ x g' (fun e=>?_)]; exact hgl;have e':g'=g:=e;subst e';unfold Blk at hb;rw [hb] at hgl;injection hgl with h;injection h with _ h;exact hTS h
def X0w {α:Type} (w:World) (T:TypeId) (enc:α -> Value) (vs:List Value) (ll:List (List α)):Prop:=vs.length=ll.length /\ ∀ i,i < ll.length -> Q0m w 0 T enc (vs.getD i undef) (ll.getD i [])
section
variable {α:Type} {w w':World} {T:TypeId} {enc:α -> Value} {vs:List Value} {ll:List (List α)}
theorem X0w.nil (w:World) (T:TypeId) (enc:α -> Value):X0w w T enc [] []:=⟨rfl,fun _ hi=>absurd hi (Nat.not_lt_zero _)⟩
theorem X0w.ext (h:X0w w T enc vs ll) (hx:Ext w w'):X0w w' T enc vs ll:=⟨h.1,fun i hi=>(h.2 i hi).below hx⟩
theorem X0w.grown {β:Type} {b2:Nat} {E:TypeId} {enc':β -> Value} {v:Value} {us:List β} (h:X0w w T enc vs ll) (ho:Q0m w b2 E enc' v us) (hTE:T ≠ E) (hg:w.grownBy w' v.ownBlock):X0w w' T enc vs ll :=
 ⟨h.1,fun i hi=>Y2w (h.2 i hi) ho hTE hg⟩
theorem X0w.snoc {v:Value} {l:List α} {b:Nat} (h:X0w w T enc vs ll) (hv:Q0m w b T enc v l):X0w w T enc (vs ++ [v]) (ll ++ [l]):=by
 refine ⟨by simp [h.1],fun i hi=>?_⟩
 by_cases hlt:i < ll.length
 . have e1:(vs ++ [v]).getD i undef=vs.getD i undef:=by simp [List.getD_eq_getElem?_getD,List.getElem?_append_left (show i < vs.length by rw [h.1]; exact hlt)]
   have e2:(ll ++ [l]).getD i []=ll.getD i []:=by simp [List.getD_eq_getElem?_getD,List.getElem?_append_left hlt]
   rw [e1,e2]; exact h.2 i hlt
 . have he:i=ll.length:=by simp at hi; omega
   subst he;have e1:(vs ++ [v]).getD ll.length undef=v:=by rw [<- h.1]; simp
   have e2:(ll ++ [l]).getD ll.length []=l:=by simp
   rw [e1,e2]; exact hv.weaken (Nat.zero_le _)
end
theorem X0w.J6e {w:World} {T:TypeId} {vs:List Value} {ll:List (List Bool)} (h:X0w w T .bool vs ll) (hl:∀ i,i < ll.length -> (ll.getD i []).length <= 17592186043904):X1j w vs ll:=⟨h.1,fun i hi=>(h.2 i hi).bools (hl i hi)⟩
end Go.Tw
namespace Go.Flow
open Go.RowKit Go.Tw
def Z7s (F:Fence) (n:Nat) (P:Program) (g:Nat) (lb:Array Value) (N:Nat) (R:Nat -> Value -> World -> Prop) (Kp:World -> World -> Prop) (w:World):Prop :=
 ∀ (l:Nat) (J:Nat -> World -> Prop) (W:World),Ext w W -> (∀ k A B,J k A -> Ext A B -> J k B) ->
  (∀ k v W1,k < N -> J k W1 -> R k v W1 -> YieldAt F (n - 1) P l #[v] W1 fun e W'=>e=.returned (.bool true) /\ J (k + 1) W' /\ Kp W1 W') ->
  J 0 W -> CallsIn F n P g (#[.func (.yield l) #[] #[]] ++ lb) W fun e W'=>(∃ v,e=.returned v) /\ J N W'
def Turns (B:Nat) (A A':World):Prop:=∃ l o o',B <= l /\ A.heap[l]?=some o /\ o.isCells=false /\ A'=A.putObj l o'
theorem Turns.cells {B:Nat} {A A':World} (h:Turns B A A') {b:Nat} {o:Obj} (hb:A.heap[b]?=some o) (hc:o.isCells=true):A'.heap[b]?=some o:=by
 obtain ⟨l,o1,o',hB,hl,hn,rfl⟩:=h;have hne:b ≠ l:=fun e=>by subst e; rw [hb] at hl; cases hl; rw [hc] at hn; cases hn
 rw [World.putObj_heap_other hne]; exact hb
theorem Turns.cell {B:Nat} {A A':World} (h:Turns B A A') {p:Addr} {v:Value} (hp:A.cell? p=some v):A'.cell? p=some v:=by
 have hlt:=World.block_lt_of_cell? A p hp;have hb:A.heap[p.block]?=some A.heap[p.block]:=Array.getElem?_eq_getElem hlt;have hc:A.heap[p.block].isCells=true:=by
  unfold World.cell? at hp;rw [hb] at hp;cases ho:A.heap[p.block] <;> rw [ho] at hp <;> simp_all [Obj.isCells]
 have hb2:=h.cells hb hc;unfold World.cell? at hp ⊢;rw [hb2]; rw [hb] at hp; exact hp
theorem Y0g {W W':World} (h:Ext W W'):KeepsOthers W W':=⟨h.size,fun k o hk _=>by rw [h.block k (Array.getElem?_eq_some_iff.1 hk).1]; exact hk⟩
def Z6d (Kp:World -> World -> Prop) (I:Nat -> World -> Prop) (k:Nat) (W:World):Exit -> Act -> World -> Prop
 | .normal,_,W'=>KeepsOthers W W' /\ Kp W W' /\ I (k + 1) W'
 | _,_,_=>False
theorem X2d {F:Fence} {n:Nat} {P:Program} {g:Operand} {ps:Array Tmp} {assign body:Code} {Q:Exit -> Act -> World -> Prop} {a:Act} {w:World}
    (hro:F.round=none) (h1:1 <= n) {gf:Nat} {lb:Array Value} (hg:a.eval g=.func (.func gf) #[] lb) (hFg:F.fn gf) (eg:∀ args w,(callFunc gf args).run P w=.ok (.enter gf args) w)
    {N:Nat} {R:Nat -> Value -> World -> Prop} {Kp:World -> World -> Prop} (hseq:Z7s F (n - 1) P gf lb N R Kp w) (hps:ps.size=1)
    (hKt:∀ {A B C:World},Kp A B -> Kp B C -> Kp A C) (hKp:∀ {A A':World},Turns w.heap.size A A' -> Kp A A')
    (hRp:∀ {k v} {A A':World},Turns w.heap.size A A' -> R k v A -> R k v A')
    (I:Nat -> World -> Prop) (hIx:∀ k A B,I k A -> Ext A B -> I k B) (hIp:∀ {k} {A A':World},Turns w.heap.size A A' -> I k A -> I k A') (h0:I 0 w) (a₁:Value -> Act)
    (hassign:∀ (l:Nat) (v:Value) (W:World) (K:Act -> World -> Prop),K (a₁ v) W ->
     assign.wpIn (F.inRound l) (n - 1 - 1) P (Exit.then K (fun _ _ _=>False)) { tmps:=(ps.zip #[v]).foldl (fun t (p,v)=>t.setIfInBounds p v) a.tmps,defers:=[] } W)
    (hbody:∀ (l k:Nat) (v:Value) (W:World),k < N -> I k W -> R k v W -> body.wpIn (F.inRound l) (n - 1 - 1) P (Z6d Kp I k W) (a₁ v) W)
    (hdone:∀ (D:Nat) (W:World),w.heap.size <= D -> I N W -> W.heap[D]?=some (.deferred (some [])) -> Q .normal { a with defers:={ target:=.collected D,args:=#[] } :: a.defers } W) :
    (Code.rangeFunc g ps assign body).wpIn F n P Q a w:=by
 refine wpIn_rangeFunc fun fn hfn=>?_;rw [hro];obtain ⟨st,hst⟩:∃ st:LoopState -> Loop,st=fun s=>{ state:=s,pending:=none,fn,tmps:=a.tmps,params:=ps,assign,body,defers:=w.heap.size }:=⟨_,rfl⟩
 have stp:∀ s,(st s).pending=none:=fun s=>by rw [hst]
 have sts:∀ s,(st s).state=s:=fun s=>by rw [hst]
 have stu:∀ s s',({ (st s) with state:=s' }:Loop)=st s':=fun s s'=>by rw [hst]
 have ste:∀ s s',({ (st s) with state:=s',pending:=none }:Loop)=st s':=fun s s'=>by rw [hst]
 obtain ⟨W1,hW1⟩:∃ W1,(w.alloc (.deferred (some []))).alloc (.loop (st .ready))=W1:=⟨_,rfl⟩;have hx1:Ext w W1:=by rw [<- hW1]; exact ((Ext.refl w).alloc _).alloc _
 have hD1:W1.heap[w.heap.size]?=some (.deferred (some [])):=by
  rw [<- hW1]; show ((w.heap.push _).push _)[w.heap.size]?=_; simp [Array.getElem?_push]
 have hL1:W1.heap[w.heap.size + 1]?=some (.loop (st .ready)):=by
  have:=World.alloc_heap_new (w.alloc (.deferred (some []))) (.loop (st .ready));rw [World.size_alloc] at this;rw [<- hW1]; exact this
 refine ⟨w.heap.size + 1,[{ target:=.collected w.heap.size,args:=#[] }],W1,{ target:=.fn (.func gf) lb,args:=#[.func (.yield (w.heap.size + 1)) #[] #[]] },W1,gf,
  #[.func (.yield (w.heap.size + 1)) #[] #[]] ++ lb,W1,?_,?_,?_,?_,fun _=>h1,?_⟩
 . rw [<- hW1,hst]; exact run_enterLoop_outer _ _ _ _ _
 . simp only [resolve,hg]; simp [go_sem]
 . intro f' hf'; simp [Target.leads] at hf'; subst hf'; exact hFg
 . simp [invoke,go_sem,eg]
 refine (hseq (w.heap.size + 1) (fun k W=>I k W /\ W.heap[w.heap.size + 1]?=some (.loop (st .ready)) /\ W.heap[w.heap.size]?=some (.deferred (some []))) W1 hx1 ?grow ?round
  ⟨hIx 0 _ _ h0 hx1,hL1,hD1⟩).mono ?done
 case grow =>
  rintro k A B ⟨hi,hl,hd⟩ hx;exact ⟨hIx k A B hi hx,by rw [Below.block hx _ (Array.getElem?_eq_some_iff.1 hl).1]; exact hl,by rw [Below.block hx _ (Array.getElem?_eq_some_iff.1 hd).1]; exact hd⟩
 case round =>
  rintro k v W hk ⟨hi,hl,hd⟩ hr;have hlt:=(Array.getElem?_eq_some_iff.1 hl).1;have hy:=run_yield (P:=P) (args:=#[v]) hl (by rw [hst]; simp [hps])
  rw [hst] at hy;refine ⟨fn,_,assign,body,hy,roundIn_of_wpIn hfn (hassign _ v W _ ⟨_,run_beginRound hl (sts _),?_⟩)⟩;rw [stu];obtain ⟨V,hV⟩:∃ V,W.putObj (w.heap.size + 1) (.loop (st .busy))=V:=⟨_,rfl⟩;have hturn:Turns w.heap.size W V:=⟨_,_,_,by omega,hl,rfl,hV.symm⟩
  have hl2:V.heap[w.heap.size + 1]?=some (.loop (st .busy)):=by rw [<- hV]; exact World.putObj_heap_same hlt
  have hd2:V.heap[w.heap.size]?=some (.deferred (some [])):=by rw [<- hV]; exact (World.putObj_heap_other (by omega)).trans hd
  rw [hV];refine wpIn_mono (hbody _ k v V hk (hIp hturn hi) (hRp hturn hr)) ?_;rintro e a3 W3 hp;cases e with
  | normal =>
    obtain ⟨hk3,hkp,hi3⟩:=hp;have hl3:=hk3.same _ _ hl2 rfl;have hend:=run_endRound (P:=P) none hl3;refine ⟨_,_,hend,rfl,?_,?_⟩
    . have e1:({ (st .busy) with state:=if (none:Option Code).isNone then .ready else .done,pending:=none }:Loop)=st .ready:=by rw [hst]; rfl
      rw [e1];have hturn3:Turns w.heap.size W3 (W3.putObj (w.heap.size + 1) (.loop (st .ready))):=⟨_,_,_,by omega,hl3,rfl,rfl⟩
      exact ⟨hIp hturn3 hi3,World.putObj_heap_same (Array.getElem?_eq_some_iff.1 hl3).1,(World.putObj_heap_other (by omega)).trans (hk3.same _ _ hd2 rfl)⟩
    . exact hKt (hKp hturn) (hKt hkp (hKp ⟨_,_,_,by omega,hl3,rfl,rfl⟩))
  | ret=>exact hp.elim
  | exit id=>exact hp.elim
  | goto t=>exact hp.elim
  | panic ch=>exact hp.elim
  | outgrown=>exact hp.elim
 case done =>
  rintro e W2 ⟨⟨v,rfl⟩,hi,hl,hd⟩;have he:=run_endLoop (P:=P) hl (by rw [sts]; simp)
  rw [stp] at he;exact ⟨none,_,he,hdone _ _ (Nat.le_refl _) (hIp ⟨_,_,_,by omega,hl,rfl,rfl⟩ hi) ((World.putObj_heap_other (by omega)).trans hd)⟩
theorem X2u {ops:Array Oper} {b:Act} {o:Oper} {j:Nat} {want:Bool} {d:Tmp} {T F:Prop} (hg:o.guard=some (j,want)) (hd:(ops[j]?).bind (·.dst)=some d) (hsz:d < b.tmps.size) (hv:b.eval (.tmp d)=undef) (h:F):Guarded ops o b T F:=by
 unfold Guarded;rw [hg];refine .inr ⟨?_,h⟩;have h2:b.tmps[d]?=some undef:=by
  have:b.tmps.getD d undef=undef:=hv;rw [Array.getD_eq_getD_getElem?,Array.getElem?_eq_getElem hsz] at this;rw [Array.getElem?_eq_getElem hsz];exact congrArg some this
 unfold Region.wanted;rw [hg];show (yielded ops b.tmps j == some want)=_;have:yielded ops b.tmps j=none:=by
  unfold yielded;rw [hd];show (match b.tmps[d]? with | some (.bool b)=>some b | _=>none)=_
  rw [h2]; rfl
 rw [this]; rfl
theorem Turns.below {B n:Nat} {A A':World} (h:Turns B A A') (hn:n <= B):Below n A A':=by
 obtain ⟨l,o,o',hB,hl,_,rfl⟩:=h;have hlt:=(Array.getElem?_eq_some_iff.1 hl).1;refine Below.grown (Below.refl n A) (grownBy_putObj' A l o') (by omega) (fun k e=>by cases e; omega)
theorem Turns.own {α:Type} {B b:Nat} {A A':World} (h:Turns B A A') {T:TypeId} {enc:α -> Value} {v:Value} {l:List α} (ho:Q0m A b T enc v l):Q0m A' b T enc v l:=by
 obtain ⟨h1,h2⟩:=ho;refine ⟨h1,?_⟩
 rcases h2 with h2 | ⟨g,cap,cur,hv,hbg,hgl,r⟩
 . exact .inl h2
 . exact .inr ⟨g,cap,cur,hv,hbg,h.cells hgl rfl,r⟩
theorem Turns.blk {B g:Nat} {A A':World} (h:Turns B A A') {T:TypeId} {cs:Array Value} (hb:Blk A g T cs):Blk A' g T cs:=h.cells hb rfl
theorem Turns.same {B b:Nat} {A A':World} (h:Turns B A A') (hb:b < B):A'.heap[b]?=A.heap[b]?:=by
 obtain ⟨l,o,o',hB,hl,_,rfl⟩:=h;exact World.putObj_heap_other (by omega)
end Go.Flow
namespace Go.Proofs
open Go.RowKit Go.Tw Go.Flow
attribute [local go_sem] Oper.semAt_some
theorem J2h {n:Nat} (h:n < 62):wrap64 (2 ^ n)=((2 ^ n:Nat):Int):=by
 have h1:(2:Nat) ^ n < 2 ^ 62:=Nat.pow_lt_pow_right (by omega) h
 have h2:((2 ^ n:Nat):Int)=2 ^ n:=by simp
 rw [<- h2];obtain ⟨m,hm⟩:∃ m,2 ^ n=m:=⟨_,rfl⟩;rw [hm] at h1 ⊢;unfold wrap64; omega
theorem Z6h {s:Nat} (hs:s < 2 ^ 62) (i:Nat):(bits .and .i64 ((s:Int) / 2 ^ i) 1 == 1)=s.testBit i:=by
 have h1:(s:Int) / 2 ^ i=((s / 2 ^ i:Nat):Int):=by simp
 have h2:bits .and .i64 ((s / 2 ^ i:Nat):Int) 1=((s / 2 ^ i &&& 1:Nat):Int):=J6n (a:=s / 2 ^ i) (b:=1) (Nat.lt_of_le_of_lt (Nat.div_le_self _ _) hs) (by decide)
 rw [h1,h2,Nat.and_one_is_mod,J6u];have h3:s / 2 ^ i % 2=0 ∨ s / 2 ^ i % 2=1:=by omega
 rcases h3 with h | h <;> rw [h] <;> rfl
theorem Y4r (w:World) (n:Int) :
    Calls Tryz.prog 112 #[.int .i64 n] w fun e w'=>e=.returned (.func (.func 170) #[] #[.pointer (some ⟨w.heap.size,0,none⟩)]) /\ Blk w' w.heap.size 3 #[.int .i64 n] /\ w'.heap.size=w.heap.size + 1 /\ Ext w w':=by
 go_enter Tryz.func112,Tryz.ntmps112;go_wp2;go_ret;exact ⟨rfl,Blk.made _ _ _,by simp,Ext.box _ _⟩
def X5z (n T k:Nat):List Bool:=(List.range k).map fun i=>n.testBit (T - 1 - i)
theorem Z0r (n T k:Nat):X5z n T (k + 1)=X5z n T k ++ [n.testBit (T - 1 - k)]:=by unfold X5z; rw [List.range_succ,List.map_append]; rfl
theorem Z3x (n T k:Nat):(X5z n T k).length=k:=by simp [X5z]
theorem Z4y (n T:Nat):X5z n T T=Q5g n T:=rfl
def J1z (Be:Nat) (A B:World):Prop:=B.heap[Be]?=A.heap[Be]?
theorem X4v (m Be T:Nat) (w:World) (hT:T <= 8) (hb:Blk w Be 3 #[.int .i64 (T:Int)]) :
    Z7s Fence.wide m Tryz.prog 170 #[.pointer (some ⟨Be,0,none⟩)] (2 ^ T) (fun k v W=>Q0m W 0 4 .bool v (Q5g k T)) (J1z Be) w:=by
 obtain ⟨i0,hi,hz0,hz1,hz2⟩:=info_parts Tryz.X7o;intro l J W hW hJ hY h0;have hbW:=hb.ext hW;have hcell:W.cell? ⟨Be,0,none⟩=some (.int .i64 (T:Int)):=hbW.cell 0;have p1:=J2h (n:=T) (by omega)
 obtain ⟨N,hN⟩:∃ N,2 ^ T=N:=⟨_,rfl⟩;rw [hN] at p1 hY ⊢;have hN2:N <= 256:=by rw [<- hN]; exact Nat.pow_le_pow_right (n:=2) (by omega) hT
 have HBW:=hid hbW;clear hb hbW hN hW;refine callsIn_of_wp Tryz.func170 rfl trivial ?_ rfl;simp only [Tryz.ntmps170,List.size_toArray,List.length_cons,List.length_nil,Nat.reduceAdd,Nat.reduceSub,Array.replicate_succ,Array.replicate_zero,List.push_toArray,List.append_toArray,List.nil_append,List.cons_append]
 gi_wp2
 clear hcell
 gi_loopw [8] (fun p wr=>∃ k:Nat,k <= N /\ p=.int .i64 k /\ J k wr /\ Blk wr Be 3 #[.int .i64 (T:Int)]) (fun p _=>N - (intOf p).toNat)
 case atStart=>exact ⟨0,Nat.zero_le _,rfl,h0,HBW.out⟩
 case round =>
  obtain ⟨k,hk,rfl,hJk,hbk⟩:=hrel
  by_cases hlt:k < N
  . have hkI:(k:Int) < N:=by omega
    have hck:wr.cell? ⟨Be,0,none⟩=some (.int .i64 (T:Int)):=hbk.cell 0;have HBK:=hid hbk;have HJK:=hid hJk;have HY:=hid (fun v W1 h1 h2=>hY k v W1 hlt h1 h2);clear hJk hbk;obtain ⟨wo,rfl⟩:∃ X,X=wr:=⟨_,rfl⟩
    gi_wp2
    clear hck
    gi_loopw [4,12] (fun o t w2=>∃ j:Nat,j <= T /\ t=.int .i64 j /\ Q0m w2 wo.heap.size 4 .bool o (X5z k T j) /\ Ext wo w2) (fun _ t _=>T - (intOf t).toNat)
    case atStart=>exact ⟨0,Nat.zero_le _,rfl,Q0m.nil _ _ _ _,Ext.refl _⟩
    case round =>
     obtain ⟨j,hj,rfl,hown,hx2⟩:=hrel;have hbk2:=HBK.out.ext hx2;have hc2:wr.cell? ⟨Be,0,none⟩=some (.int .i64 (T:Int)):=hbk2.cell 0
     by_cases hjT:j < T
     . have hjI:(j:Int) < T:=by omega
       have hw1:IntKind.i64.wrap ((T:Int) - 1)=(T:Int) - 1:=Q2h _ (by omega) (by omega)
       have hw2:IntKind.i64.wrap ((T:Int) - 1 - (j:Int))=(T:Int) - 1 - (j:Int):=Q2h _ (by omega) (by omega)
       have hsn:((T:Int) - 1 - (j:Int)).toNat=T - 1 - j:=by omega
       have hs0:¬ (T:Int) - 1 - (j:Int) < 0:=by omega
       have hmn:min (T - 1 - j) 64=T - 1 - j:=by omega
       have hb1:=Z6h (s:=k) (by omega) (T - 1 - j)
       have HSU:=hid (Z0r k T j);obtain ⟨q,hq⟩:∃ x,k.testBit (T - 1 - j)=x:=⟨_,rfl⟩;rw [hq] at hb1 HSU;have hll:(X5z k T j).length <= 4096:=by rw [Z3x]; omega
       clear hq hbk2
       gi_wp2_with (gi_at_builtin; refine wpListIn_append_own _ rfl _ _ 82 rfl (wo.heap.size) 4 i0 (.bool false) 1 1 Tryz.underlying82 hi hz0 hz1 hz2 rfl (by decide) _ _ _ rfl (World.ownsRow.alloc hown _) ⟨wr.heap.size,0,none⟩ 1 1 [.bool q] rfl rfl ?_ ?_ ?_ ?_ ?_ ?_; exact Q3i _ _ _; (focus (simp [Value.oneCell'])); (focus (unfold maxLen; omega)); (focus omega); (focus (have:=hx2.size; simp at this ⊢; omega)); intro v' w1 hown' hgrow _)
       have hx':=Q2e hx2 hown (Nat.le_refl _) hgrow;go_roundw
       case rel=>exact ⟨j + 1,by omega,by go_num,by rw [HSU.out]; exact Q0m.snoc hown',hx'⟩
       case measure=>simp [intOf]; omega
     . have hjI:¬ (j:Int) < T:=by omega
       have hje:j=T:=by omega
       subst hje;have HOW:=hid hown;have HX2:=hid hx2;have HJ2:=hid (hJ _ _ _ HJK.out hx2);have hyy:=HY.out _ wr HJ2.out (by rw [<- Z4y]; exact hown.weaken (Nat.zero_le _))
       obtain ⟨fn,tmps,assign,body,hy,hR⟩:=hyy;clear hown hx2 hbk2
       gi_wp2
       refine ⟨fun h=>by simp [Fence.wide] at h,hR.mono ?_⟩
       rintro e W3 ⟨rfl,hJ3,hkp⟩;have hb3:Blk W3 Be 3 #[.int .i64 (j:Int)]:=by
        have h:=HBK.out.ext HX2.out;unfold Blk at h ⊢;unfold J1z at hkp;rw [hkp]; exact h
       have HB3:=hid hb3;have HJ3:=hid hJ3;clear hJ3 hb3 hkp
       gi_wp2
       go_roundw
       case rel=>exact ⟨k + 1,by omega,by go_num,HJ3.out,HB3.out⟩
       case measure=>simp [intOf]; omega
  . have hkI:¬ (k:Int) < N:=by omega
    have hke:k=N:=by omega
    subst hke;have HJK:=hid hJk;clear hJk
    gi_wp2
    go_end0
    exact ⟨⟨_,rfl⟩,HJK.out⟩
end Go.Proofs
namespace Go.Tw
theorem Q8h {p:List Rul} {k:Nat} (hk:k < p.length):Q0n p k=p[k].classes:=by unfold Q0n; rw [Q0t _ hk]
theorem Z9g {p:List Rul} {k:Nat} (hk:k < p.length):Q3v p k=p[k].close:=by unfold Q3v; rw [Q0t _ hk]
end Go.Tw
