/- Contract of the reference: Short (what it lets through). -/
import Derived.Test.YtgopmebjbkdfgaaGreatDoorFm29
import Derived.Test.YtgopmebjbkdfgaaGreatDoorFm31
set_option maxRecDepth 1000000
set_option maxHeartbeats 64000000
set_option linter.unusedVariables false
set_option linter.unusedSimpArgs false
set_option linter.constructorNameAsVariable false
namespace Go.Proofs
open Go.RowKit Go.Tw Go.Flow
structure Fits (t:Tree) (n:Nat):Prop where
 b:t.basics.length <= n ∨ t.basics.length = 13
 c:t.causes.length <= n
 g:t.gates.length <= 33
 m:∀ k,k < t.causes.length -> (Q0e t.causes k).length <= 14
 i:∀ k,k < t.gates.length -> (Q0i t.gates k).length <= 14
 g8:t.gates.length <= 8 ∨ t.gates.length = 33
 s:t.size <= n ∨ t.err ≠ 0
structure Good (t:Tree) (n:Nat):Prop where
 b:t.basics.length <= n
 c:t.causes.length <= n
 g:t.gates.length <= 8
 nm:∀ k,k < t.size -> (t.nameAt k).size <= 40
 m:∀ k,k < t.causes.length -> (Q0e t.causes k).length <= 14
 kd:∀ k,k < t.gates.length -> (Q2f t.gates k).size <= 40
 i:∀ k,k < t.gates.length -> (Q0i t.gates k).length <= 14
 s:t.size <= n
def Y2e (t:Tree) (n:Nat) (w:World) (e:Ending) (w':World):Prop:=∃ q,e = .returned (.bool q) /\ (q = true -> Fits t n) /\ Ext w w' /\ (q = false -> ¬ Good t n)
theorem Q3w {t:Tree} {n:Nat} {w w':World} {e:Ending} (q:Bool) (he:e = .returned (.bool q)) (hf:q = true -> Fits t n) (hx:Ext w w') (hg:q = false -> ¬ Good t n):Y2e t n w e w':=⟨q,he,hf,hx,hg⟩
theorem Z0j (w:World) (v:Value) (t:Tree) (n:Nat) (ht:IsTree w v t) (hn:n <= 1000) :
    Calls Tryz.prog 8 #[v,.int .i64 n] w fun e w'=>Y2e t n w e w':=by
 obtain ⟨a,b,c,rfl,h3⟩:=ht;obtain ⟨A,capa,rfl,hl1,hcap1,_⟩:=h3.basics.opened;obtain ⟨B,capb,rfl,hl2,hcap2,_⟩:=h3.causes.opened;obtain ⟨G,capg,rfl,hl3,hcap3,_⟩:=h3.gates.opened;have HT0:=Lib.hid h3;clear h3;go_enter Tryz.func8,Tryz.ntmps8;have hA:(n < t.basics.length /\ t.basics.length ≠ 13) ∨ (¬ n < t.basics.length) ∨ (n < t.basics.length /\ t.basics.length = 13):=by omega
 rcases hA with ⟨hA,hA2⟩ | hAA
 . have hA3:((t.basics.length:Int) != 13) = true:=by simp; omega
   go_wp2;go_ret;exact Q3w false rfl (fun h=>by cases h) (Ext.box _ _) (fun _ h=>by have:=h.b; omega)
 have HA:Hid (t.basics.length <= n ∨ t.basics.length = 13):=Lib.hid (by omega)
 have hA2:∃ q,((t.basics.length:Int) != 13) = q /\ (n < t.basics.length -> q = false):=⟨_,rfl,fun h=>by simp; omega⟩
 obtain ⟨q13,hq13,hqA⟩:=hA2;have hbase:t.basics.length <= 2000:=by omega
 by_cases hB:n < t.causes.length
 . rcases hAA with hA | ⟨hA,hA3⟩
   . go_wp2
     go_ret;exact Q3w false rfl (fun h=>by cases h) (Ext.box _ _) (fun _ h=>by have:=h.c; omega)
   . rw [hqA hA] at hq13
     clear hA3;go_wp2;go_ret;exact Q3w false rfl (fun h=>by cases h) (Ext.box _ _) (fun _ h=>by have:=h.c; omega)
 have hC:(8 < t.gates.length /\ t.gates.length ≠ 33) ∨ (¬ 8 < t.gates.length) ∨ (8 < t.gates.length /\ t.gates.length = 33):=by omega
 rcases hC with ⟨hC,hC2⟩ | hCC
 . have hC3:((t.gates.length:Int) != 33) = true:=by simp; omega
   rcases hAA with hA | ⟨hA,hA3⟩
   . go_wp2
     go_ret;exact Q3w false rfl (fun h=>by cases h) (Ext.box _ _) (fun _ h=>by have:=h.g; omega)
   . rw [hqA hA] at hq13
     clear hA3;go_wp2;go_ret;exact Q3w false rfl (fun h=>by cases h) (Ext.box _ _) (fun _ h=>by have:=h.g; omega)
 have HG:Hid (t.gates.length <= 33):=Lib.hid (by omega)
 have HG8:Hid (t.gates.length <= 8 ∨ t.gates.length = 33):=Lib.hid (by omega)
 have hgI:t.gates.length <= 33:=HG.out;have hC2:∃ q,((t.gates.length:Int) != 33) = q /\ (8 < t.gates.length -> q = false):=⟨_,rfl,fun h=>by simp; omega⟩
 obtain ⟨q33,hq33,hqC⟩:=hC2
 rcases hAA with hA | ⟨hA,hA3⟩ <;> rcases hCC with hC | ⟨hC,hC3⟩ <;>
 (first | (rw [hqA hA] at hq13; clear hA3) | skip) <;> (first | (rw [hqC hC] at hq33; clear hC3) | skip) <;> clear hqA hqC <;>
 (go_wp2_with fail
  change Code.wp _ _ _ _ (w.alloc (.cells #[.slice A t.basics.length capa,.slice B t.causes.length capb,.slice G t.gates.length capg] 26));obtain ⟨W,hWW,k0,HXW,eW⟩:=Q3z w 26 #[.slice A t.basics.length capa,.slice B t.causes.length capb,.slice G t.gates.length capg];rw [hWW];clear hWW;have HT:=Lib.hid (HT0.out.ext HXW.out);have K0:=Lib.hid k0;clear k0 hq13 hq33
  go_loopw [5] (fun i wr=>∃ k:Nat,k <= t.size /\ i = .int .i64 k /\ Ext W wr) (fun i _=>t.size - (intOf i).toNat)
  case atStart=>exact ⟨0,Nat.zero_le _,rfl,Ext.refl _⟩
  case round =>
   obtain ⟨k,hk,rfl,hx⟩:=hrel;have HX:=Lib.hid hx;have hk2:(k:Int) <= 4000:=by unfold Tree.size at hk; omega
   have HK:=Lib.hid (K0.out.ext hx);have c0:=HK.out.cell 0;have c1:=HK.out.cell 1;have c2:=HK.out.cell 2;simp only [Go.Tw.gA,Go.Tw.gB,Go.Tw.gC] at c0 c1 c2;go_wp2_with fail;refine (X2d _ _ t ⟨_,_,_,rfl,HT.out.ext hx⟩).mono ?_;rintro e w2 ⟨rfl,hx2⟩;obtain ⟨sz,hsz⟩:∃ x,t.size = x:=⟨_,rfl⟩;rw [hsz];have HSZ:=Lib.hid hsz;have d0:=hx2.cell c0;have d1:=hx2.cell c1;have d2:=hx2.cell c2;clear c0 c1 c2
   by_cases hlt:k < sz
   . go_wp2_with fail
     refine (name_any _ _ t k ⟨_,_,_,rfl,HT.out.ext (hx.trans hx2)⟩ (by omega)).mono ?_
     rintro e w3 ⟨rfl,hx3⟩;have HX3:=Lib.hid ((hx.trans hx2).trans hx3);obtain ⟨nm,hnm⟩:∃ x,t.nameAt k = x:=⟨_,rfl⟩;rw [hnm]
     by_cases h40:40 < nm.size
     . go_wp2
       go_ret;exact Q3w false rfl (fun h=>by cases h) (HXW.out.trans HX3.out) (fun _ h=>by have h1:=h.nm k (by have:=HSZ.out; omega); rw [hnm] at h1; omega)
     . go_wp2
       go_roundw
       case rel=>exact ⟨k + 1,by have:=HSZ.out; omega,by go_num,HX3.out⟩
       case measure=>have:=HSZ.out; simp [intOf]; omega
   . have HX2:=Lib.hid (hx.trans hx2)
     clear hsz hk hk2 hx hx2 HX;go_wp2;clear d0 d1 d2
     go_loopw [6] (fun i wr=>∃ k:Nat,k <= t.causes.length /\ i = .int .i64 k /\ (∀ j,j < k -> (Q0e t.causes j).length <= 14) /\ Ext W wr) (fun i _=>t.causes.length - (intOf i).toNat)
     case atStart=>exact ⟨0,Nat.zero_le _,rfl,fun j hj=>by omega,HX2.out⟩
     case round =>
      obtain ⟨k,hk,rfl,hm,hx⟩:=hrel;have HM:=Lib.hid hm;have HX:=Lib.hid hx;have kt:=K0.out.ext hx;have c1:=kt.cell 1;have c2:=kt.cell 2;simp only [Go.Tw.gA,Go.Tw.gB,Go.Tw.gC] at c1 c2;clear hm kt
      by_cases hlt:k < t.causes.length
      . obtain ⟨_,_,he0,_,_,hcc⟩:=HT.out.causes.opened
        cases he0;obtain ⟨b1,off,mv,rfl,hb1,_,_,e2,hM,_⟩:=hcc k hlt;obtain ⟨A3,cap3,rfl,hl33,_,_⟩:=hM.opened;replace e2:=hx.cell e2;have hkI:(k:Int) < t.causes.length:=by omega
        obtain ⟨ml,hml⟩:∃ x,(Q0e t.causes k).length = x:=⟨_,rfl⟩;rw [hml] at e2 hl33;have HML:=Lib.hid hml;clear hcc hM hx hml
        by_cases h14:14 < ml
        . go_wp2
          go_ret;exact Q3w false rfl (fun h=>by cases h) (HXW.out.trans HX.out) (fun _ h=>by have h1:=h.m k hlt; rw [HML.out] at h1; omega)
        . go_wp2
          go_roundw
          case rel=>exact ⟨k + 1,by omega,by go_num,(fun j hj=>by rcases Nat.lt_or_ge j k with h | h; exact HM.out j h; rw [show j = k from by omega,HML.out]; omega),HX.out⟩
          case measure=>simp [intOf]; omega
      . have HMA:Hid (∀ j,j < t.causes.length -> (Q0e t.causes j).length <= 14):=Lib.hid (fun j hj=>HM.out j (by omega))
        clear hx;go_wp2;clear c1 c2
        go_loopw [7] (fun i wr=>∃ k:Nat,k <= t.gates.length /\ i = .int .i64 k /\ (∀ j,j < k -> (Q0i t.gates j).length <= 14) /\ Ext W wr) (fun i _=>t.gates.length - (intOf i).toNat)
        case atStart=>exact ⟨0,Nat.zero_le _,rfl,fun j hj=>by omega,HX.out⟩
        case round =>
         obtain ⟨k,hk,rfl,hm,hx⟩:=hrel;have HM:=Lib.hid hm;have HX:=Lib.hid hx;have HKT:=Lib.hid (K0.out.ext hx);have c2:=HKT.out.cell 2;simp only [Go.Tw.gA,Go.Tw.gB,Go.Tw.gC] at c2;clear hm
         by_cases hlt:k < t.gates.length
         . obtain ⟨_,_,he0,_,_,hcc⟩:=HT.out.gates.opened
           cases he0;obtain ⟨b1,off,mv,rfl,hb1,e0,_,e2,hM,_⟩:=hcc k hlt;obtain ⟨A3,cap3,rfl,hl33,_,_⟩:=hM.opened;replace e0:=hx.cell e0;replace e2:=hx.cell e2;have hkI:(k:Int) < t.gates.length:=by omega
           obtain ⟨ml,hml⟩:∃ x,(Q0i t.gates k).length = x:=⟨_,rfl⟩;obtain ⟨kd,hkd⟩:∃ x,Q2f t.gates k = x:=⟨_,rfl⟩;rw [hml] at e2 hl33;rw [hkd] at e0;have HML:=Lib.hid hml;have HKD:=Lib.hid hkd;clear hcc hM hx hml hkd
           by_cases h40:40 < kd.size
           . go_wp2
             go_ret;exact Q3w false rfl (fun h=>by cases h) (HXW.out.trans HX.out) (fun _ h=>by have h1:=h.kd k hlt; rw [HKD.out] at h1; omega)
           . by_cases h14:14 < ml
             . go_wp2
               go_ret;exact Q3w false rfl (fun h=>by cases h) (HXW.out.trans HX.out) (fun _ h=>by have h1:=h.i k hlt; rw [HML.out] at h1; omega)
             . go_wp2
               go_roundw
               case rel=>exact ⟨k + 1,by omega,by go_num,(fun j hj=>by rcases Nat.lt_or_ge j k with h | h; exact HM.out j h; rw [show j = k from by omega,HML.out]; omega),HX.out⟩
               case measure=>simp [intOf]; omega
         . have HFITS:Hid ((t.size <= n ∨ t.err ≠ 0) -> Fits t n):=Lib.hid (fun hs=>⟨HA.out,by omega,HG.out,HMA.out,fun j hj=>HM.out j (by omega),HG8.out,hs⟩)
           have c0:=HKT.out.cell 0;have c1:=HKT.out.cell 1;simp only [Go.Tw.gA,Go.Tw.gB,Go.Tw.gC] at c0 c1;go_wp2_with fail;refine (X2d _ _ t ⟨_,_,_,rfl,HT.out.ext hx⟩).mono ?_;rintro e w4 ⟨rfl,hx4⟩;have HX4:=Lib.hid (hx.trans hx4);replace c0:=hx4.cell c0;replace c1:=hx4.cell c1;replace c2:=hx4.cell c2;obtain ⟨s2,hs2⟩:∃ x,t.size = x:=⟨_,rfl⟩;rw [hs2];have HS2:=Lib.hid hs2;clear hs2 hx hx4
           by_cases hle:s2 <= n
           . go_wp2
             go_ret;exact Q3w true rfl (fun _=>HFITS.out (.inl (by rw [HS2.out]; exact hle))) (HXW.out.trans HX4.out) (fun h=>by cases h)
           . go_wp2_with fail
             refine (Q8r _ _ t ⟨_,_,_,rfl,HT.out.ext HX4.out⟩).mono ?_;rintro e w5 ⟨rfl,hx5⟩;have HX5:=Lib.hid (HX4.out.trans hx5);obtain ⟨E,hE⟩:∃ x,t.err = x:=⟨_,rfl⟩;rw [hE];have HE:=Lib.hid hE;clear hE hx5;obtain ⟨q,hq⟩:∃ q,(E != 0) = q:=⟨_,rfl⟩;have HQ:=Lib.hid hq;go_wp2;go_ret;exact Q3w q rfl (fun h=>HFITS.out (.inr (by rw [HE.out]; intro h0; have h1:=HQ.out; rw [h0,h] at h1; cases h1))) (HXW.out.trans HX5.out) (fun _ h=>hle (by have h1:=h.s; rw [HS2.out] at h1; exact h1)))
theorem short_any (w:World) (v:Value) (t:Tree) (n:Nat) (ht:IsTree w v t) (hn:n <= 1000) :
    Calls Tryz.prog 8 #[v,.int .i64 n] w fun e w'=>∃ q,e = .returned (.bool q) /\ (q = true -> Fits t n) /\ Ext w w' :=
 (Z0j w v t n ht hn).mono fun _ _ ⟨q,h1,h2,h3,_⟩=>⟨q,h1,h2,h3⟩
end Go.Proofs
