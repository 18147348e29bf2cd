/- The law FaultLinear: the call returns true. The law FaultLinear: for every input the call returns true, and each argument reads afterwards as before: the row's statement, and its tied card. The listed tables of math/bits and strconv are as the program's text lays them. -/
import Derived.Test.YtmaejccjimkbiaaGreatDoorFx45
import Derived.Test.YtmaejccjimkbiaaGreatDoorFx46
import Derived.Test.YtmaejccjimkbiaaGreatDoorLi01
set_option linter.unusedVariables false
set_option linter.unusedSimpArgs false
set_option linter.constructorNameAsVariable false
namespace Go.Proofs
open Go.RowKit Go.Tw Go.Flow
attribute [local go_sem ↓] Y3d X9j Z8b X2p Z7r Z7i
set_option linter.unusedSimpArgs false in
set_option maxRecDepth 100000 in
set_option maxHeartbeats 32000000 in
theorem Z8s (w:World) (v:Value) (t:Tree) (nn:Nat) (hn:nn < 256) (ht:IsTree w v t) (hT:Tab w) :
    Calls Tryz.prog 6 #[v,.int .u8 (nn:Int)] w fun e w'=>e = .returned (.bool true) ∧ Ext w w':=by
 obtain ⟨a,b,c,rfl,h3⟩:=ht;obtain ⟨A,capa,rfl,hl1,hcap1,_⟩:=h3.basics.opened;obtain ⟨B,capb,rfl,hl2,hcap2,_⟩:=h3.causes.opened;obtain ⟨G,capg,rfl,hl3,hcap3,_⟩:=h3.gates.opened;have HT0:=Lib.hid h3;clear h3;have HTAB:=Lib.hid hT;clear hT;go_enter Tryz.func6,Tryz.ntmps6;go_wp2_with fail;change Calls _ _ _ (w.alloc (.cells #[.slice A t.basics.length capa,.slice B t.causes.length capb,.slice G t.gates.length capg] 26)) _;have k0:=Blk.made w 26 #[.slice A t.basics.length capa,.slice B t.causes.length capb,.slice G t.gates.length capg];have x0:=Ext.box w (.cells #[.slice A t.basics.length capa,.slice B t.causes.length capb,.slice G t.gates.length capg] 26);have es0:(w.alloc (.cells #[.slice A t.basics.length capa,.slice B t.causes.length capb,.slice G t.gates.length capg] 26)).heap.size = w.heap.size + 1:=by simp
 obtain ⟨X0,hX0⟩:∃ X,w.alloc (.cells #[.slice A t.basics.length capa,.slice B t.causes.length capb,.slice G t.gates.length capg] 26) = X:=⟨_,rfl⟩;rw [hX0] at k0 x0 es0 ⊢;clear hX0;have e0:X0.heap.size = w.heap.size + 1:=by omega
 have HXW:Hid (Ext w X0):=by exact (x0:Ext w X0)
 have eW:X0.heap.size = w.heap.size + 1:=e0;clear x0 es0 e0;obtain ⟨W,hWW⟩:∃ W,X0 = W:=⟨_,rfl⟩;rw [hWW] at HXW eW ⊢ k0;clear hWW;obtain ⟨WB,hWB⟩:∃ X,W = X:=⟨_,rfl⟩;rw [hWB] at HXW eW k0 ⊢;clear hWB;have HT:=Lib.hid (HT0.out.ext HXW.out);have K0:=Lib.hid k0;replace HTAB:=Lib.hid (HTAB.out.ext HXW.out);have HW0:=Lib.hid HXW.out;have HX:=Lib.hid (Ext.refl WB);clear k0 HXW
 skip
 refine (Y0r _ HTAB.out).mono ?_;rintro e w1 ⟨rfl,hx⟩;have hxx:Ext WB w1:=hx;replace HX:=Lib.hid (HX.out.trans hxx);replace HTAB:=Lib.hid (HTAB.out.ext hxx);replace K0:=Lib.hid (K0.out.ext hxx);replace HT:=Lib.hid (HT.out.ext hxx);clear hx hxx;have k0_0:=K0.out.cell 0;have k0_1:=K0.out.cell 1;have k0_2:=K0.out.cell 2;simp only [List.getElem?_toArray,List.getElem?_cons_zero,List.getElem?_cons_succ] at k0_0 k0_1 k0_2;go_wp2_with fail;clear k0_0 k0_1 k0_2;refine (J1b _ _ t 6 ⟨_,_,_,rfl,HT.out⟩ (by omega)).mono ?_
 rintro e w2 ⟨q,rfl,hq,hx,_⟩;replace HX:=Lib.hid (HX.out.trans hx);replace HTAB:=Lib.hid (HTAB.out.ext hx);replace K0:=Lib.hid (K0.out.ext hx);replace HT:=Lib.hid (HT.out.ext hx);clear hx;cases q with
 | false =>
   clear hq;go_wp2_with fail;refine (Y0r _ HTAB.out).mono ?_;rintro e w3 ⟨rfl,hx⟩;have hxx:Ext w2 w3:=hx;replace HX:=Lib.hid (HX.out.trans hxx);replace HTAB:=Lib.hid (HTAB.out.ext hxx);replace K0:=Lib.hid (K0.out.ext hxx);replace HT:=Lib.hid (HT.out.ext hxx);clear hx hxx;go_wp2;go_ret;exact ⟨rfl,HW0.out.trans HX.out⟩
 | true =>
   have HE:=Lib.hid (hq rfl).1;have HF:=Lib.hid ((hq rfl).2.1.few (by omega))
   have HSZ:=Lib.hid (hq rfl).2.2;clear hq;have HV:=Lib.hid (Valid.of HE.out);have k0_0:=K0.out.cell 0;have k0_1:=K0.out.cell 1;have k0_2:=K0.out.cell 2;simp only [List.getElem?_toArray,List.getElem?_cons_zero,List.getElem?_cons_succ] at k0_0 k0_1 k0_2;go_wp2_with fail;clear k0_0 k0_1 k0_2;refine (X3y _ _ t ⟨_,_,_,rfl,HT.out⟩).mono ?_;rintro e w3 ⟨rfl,hx⟩;have hxx:Ext w2 w3:=hx;replace HX:=Lib.hid (HX.out.trans hxx);replace HTAB:=Lib.hid (HTAB.out.ext hxx);replace K0:=Lib.hid (K0.out.ext hxx);replace HT:=Lib.hid (HT.out.ext hxx);clear hx hxx;have hs6:t.basics.length + t.causes.length ≤ 6:=by have:=HSZ.out; unfold Tree.size at this; exact this
   have hs1:1 ≤ t.basics.length:=HV.out.nb;have hnbI:(t.basics.length:Int) ≤ 6:=by omega
   obtain ⟨sz,hsz⟩:∃ x,t.size = x:=⟨_,rfl⟩;have hsz2:t.basics.length + t.causes.length = sz:=by rw [← hsz]; rfl
   obtain ⟨at_,hat⟩:∃ K,nn % sz = K:=⟨_,rfl⟩;have hkl:at_ < sz:=by rw [← hat]; exact Nat.mod_lt _ (by omega)
   have hrem:(nn:Int).tmod (sz:Int) = (at_:Int):=by rw [← hat]; exact (Int.ofNat_tmod _ _).symm
   have HK:Hid (at_ < t.size):=by exact (by rw [hsz]; exact hkl:at_ < t.size)
   have HS2:=Lib.hid hsz2;have HKB:Hid (at_ < t.basics.length + t.causes.length):=by exact (by rw [hsz2]; exact hkl:at_ < t.basics.length + t.causes.length)
   have hszne:¬ ((sz:Int) = 0):=by omega
   have hwc:IntKind.i64.wrap (nn:Int) = (nn:Int):=wrap_in (by omega) (by omega)
   obtain ⟨OA,hOA⟩:∃ x,ix t.Q0b at_ = x:=⟨_,rfl⟩;have HOA:=Lib.hid hOA;rw [hsz];have HSS:=Lib.hid hsz;have HKL:=Lib.hid hkl;clear hat hsz hsz2 hOA hkl;have k0_0:=K0.out.cell 0;have k0_1:=K0.out.cell 1;have k0_2:=K0.out.cell 2;simp only [List.getElem?_toArray,List.getElem?_cons_zero,List.getElem?_cons_succ] at k0_0 k0_1 k0_2;go_wp2;clear k0_0 k0_1 k0_2;clear hrem hszne hwc;obtain ⟨i0,hi,hz0,hz1,hz2⟩:=info_parts Tryz.info3;have HXB1:=Lib.hid HX.out;clear HX
   go_loopw [7,6,50] (fun l o i wr=>∃ k:Nat,k ≤ t.basics.length ∧ i = .int .i64 k ∧ o = .int .i64 (Z6x OA at_ (k)) ∧ Q0q wr w3.heap.size 3 (.int .i64) l (Z6o t (k)) ∧ Ext w3 wr) (fun _ _ i _=>t.basics.length - (intOf i).toNat)
   case atStart=>exact ⟨0,Nat.zero_le _,rfl,by rw [J1a],Q0q.nil _ _ _ _,Ext.refl _⟩
   case round =>
    obtain ⟨k,hk,rfl,rfl,hown,hx⟩:=hrel;have HX:=Lib.hid hx
    by_cases hlt:k < t.basics.length
    · skip
      obtain ⟨_,_,he0,_,_,hcc⟩:=((HT.out.ext hx).basics).opened;cases he0;obtain ⟨b1,off1,rfl,_,e0,e1,_⟩:=hcc k hlt;clear hcc;obtain ⟨nm,hnm⟩:∃ x,bName t.basics k = x:=⟨_,rfl⟩;obtain ⟨ch,hch⟩:∃ x,Q1l t.basics k = x:=⟨_,rfl⟩;have HCA:Hid (t.Q0y (k) = ch):=by exact (by unfold Tree.Q0y; rw [if_pos hlt]; exact hch:t.Q0y (k) = ch)
      rw [hnm] at e0;rw [hch] at e1;clear hnm hch;have hkI:(k:Int) < t.basics.length:=by omega
      have xb:=Ext.box wr (.cells #[.string nm,.int .i64 ch] 80);have KB:=Lib.hid (Blk.made wr 80 #[.string nm,.int .i64 ch]);have hown2:=hown.below xb;have hx2:=hx.trans xb;have hle:(Z6o t (k)).length ≤ 100000:=by rw [Z7x]; omega
      go_upto_region 9 with fail;obtain ⟨wb,hwb⟩:∃ X,wr.alloc (.cells #[.string nm,.int .i64 ch] 80) = X:=⟨_,rfl⟩;rw [hwb] at KB xb hown2 hx2 ⊢;clear hwb e0 e1;have d1:=KB.out.cell 1;simp only [List.getElem?_toArray,List.getElem?_cons_zero,List.getElem?_cons_succ] at d1;have hne:=hown.new_ne;clear hown;go_upto_region 10 with (at_builtin; refine wpList_append_own _ rfl _ _ 39 rfl (w3.heap.size) 3 i0 (.int .i64 0) 1 8 Tryz.underlying39 hi hz0 hz1 hz2 rfl (by decide) _ _ _ rfl (World.ownsRow.alloc hown2 _) ⟨wb.heap.size,0,none⟩ 1 1 [.int .i64 ch] rfl rfl ?_ ?_ ?_ ?_ ?_ ?_; exact Q9g _ _ _; (focus (simp [Value.oneCell'])); (focus (unfold maxLen; omega)); (focus omega); (focus (have:=hx2.size; simp at this ⊢; omega)); intro v' w1 hown' hgrow _)
      have hx3:=Q5h hx2 hown2 (Nat.le_refl _) hgrow;replace d1:=(X0b (k:=1) (b:=wr.heap.size) hgrow (by have:=KB.out.lt; simp; omega) hne).trans ((Ext.box wb _).cell d1)
      have HX3:=Lib.hid hx3;have HOW:Hid (Q0q w1 w3.heap.size 3 (.int .i64) v' (Z6o t (k + 1))):=by exact (by rw [Z7p,HCA.out]; exact Q0q.snoc hown':Q0q w1 w3.heap.size 3 (.int .i64) v' (Z6o t (k + 1)))
      clear hown2 hgrow hown' hx3 hx2 hx xb hle hne
      by_cases hka:k = at_
      · skip
        have HO1:Hid (Z6x OA at_ (k + 1) = ch):=by exact (by rw [hka,J0q,← HOA.out,← Z9q HK.out,← hka]; exact HCA.out:Z6x OA at_ (k + 1) = ch)
        have hq:((k:Int) == (at_:Int)) = true:=by rw [beq_iff_eq]; omega
        clear hka;go_wp2;go_roundw
        case rel=>exact ⟨k + 1,by omega,by go_num,by rw [HO1.out],HOW.out,HX3.out⟩
        case measure=>simp [intOf]; omega
      · skip
        have HO1:Hid (Z6x OA at_ (k + 1) = Z6x OA at_ (k)):=by exact (J0r hka:Z6x OA at_ (k + 1) = Z6x OA at_ (k))
        have hq:((k:Int) == (at_:Int)) = false:=by rw [beq_eq_false_iff_ne]; omega
        clear hka;go_wp2;go_roundw
        case rel=>exact ⟨k + 1,by omega,by go_num,by rw [HO1.out],HOW.out,HX3.out⟩
        case measure=>simp [intOf]; omega
    · obtain rfl:t.basics.length = k:=by omega
      have HKK:=Lib.hid (K0.out.ext HX.out);have hkk_0:=HKK.out.cell 0;have hkk_1:=HKK.out.cell 1;have hkk_2:=HKK.out.cell 2;simp only [List.getElem?_toArray,List.getElem?_cons_zero,List.getElem?_cons_succ] at hkk_0 hkk_1 hkk_2;go_wp2;clear hkk_0 hkk_1 hkk_2;clear HKK hlt;obtain ⟨wl,hwl⟩:∃ X,wr = X:=⟨_,rfl⟩;rw [hwl] at hown hx HX ⊢;clear hwl hk;clear HX
      go_loopw [7,6,69] (fun l o i wr=>∃ k:Nat,k ≤ t.causes.length ∧ i = .int .i64 k ∧ o = .int .i64 (Z6x OA at_ (t.basics.length + k)) ∧ Q0q wr w3.heap.size 3 (.int .i64) l (Z6o t (t.basics.length + k)) ∧ Ext w3 wr) (fun _ _ i _=>t.causes.length - (intOf i).toNat)
      case atStart=>exact ⟨0,Nat.zero_le _,rfl,rfl,hown,hx⟩
      case round =>
       clear hown hx;obtain ⟨k,hk,rfl,rfl,hown,hx⟩:=hrel;have HX:=Lib.hid hx
       by_cases hlt:k < t.causes.length
       · skip
         obtain ⟨_,_,he0,_,_,hcc⟩:=((HT.out.ext hx).causes).opened;cases he0;obtain ⟨b1,off1,m1,rfl,_,e0,e1,e2,hm1,_⟩:=hcc k hlt;obtain ⟨A1,cap1,rfl,_,_,_⟩:=hm1.opened;clear hm1;clear hcc;obtain ⟨nm,hnm⟩:∃ x,cName t.causes k = x:=⟨_,rfl⟩;obtain ⟨ch,hch⟩:∃ x,Q1d t.causes k = x:=⟨_,rfl⟩;have HCA:Hid (t.Q0y (t.basics.length + k) = ch):=by exact (by unfold Tree.Q0y; rw [if_neg (by omega),Nat.add_sub_cancel_left]; exact hch:t.Q0y (t.basics.length + k) = ch)
         rw [hnm] at e0;rw [hch] at e1;clear hnm hch;have hkI:(k:Int) < t.causes.length:=by omega
         have xb:=Ext.box wr (.cells #[.string nm,.int .i64 ch,.slice A1 (Q0c t.causes k).length cap1] 82);have KB:=Lib.hid (Blk.made wr 82 #[.string nm,.int .i64 ch,.slice A1 (Q0c t.causes k).length cap1]);have hown2:=hown.below xb;have hx2:=hx.trans xb;have hle:(Z6o t (t.basics.length + k)).length ≤ 100000:=by rw [Z7x]; omega
         go_upto_region 16 with fail;obtain ⟨wb,hwb⟩:∃ X,wr.alloc (.cells #[.string nm,.int .i64 ch,.slice A1 (Q0c t.causes k).length cap1] 82) = X:=⟨_,rfl⟩;rw [hwb] at KB xb hown2 hx2 ⊢;clear hwb e0 e1 e2;have d1:=KB.out.cell 1;simp only [List.getElem?_toArray,List.getElem?_cons_zero,List.getElem?_cons_succ] at d1;have hne:=hown.new_ne;clear hown;go_upto_region 17 with (at_builtin; refine wpList_append_own _ rfl _ _ 39 rfl (w3.heap.size) 3 i0 (.int .i64 0) 1 8 Tryz.underlying39 hi hz0 hz1 hz2 rfl (by decide) _ _ _ rfl (World.ownsRow.alloc hown2 _) ⟨wb.heap.size,0,none⟩ 1 1 [.int .i64 ch] rfl rfl ?_ ?_ ?_ ?_ ?_ ?_; exact Q9g _ _ _; (focus (simp [Value.oneCell'])); (focus (unfold maxLen; omega)); (focus omega); (focus (have:=hx2.size; simp at this ⊢; omega)); intro v' w1 hown' hgrow _)
         have hx3:=Q5h hx2 hown2 (Nat.le_refl _) hgrow;replace d1:=(X0b (k:=1) (b:=wr.heap.size) hgrow (by have:=KB.out.lt; simp; omega) hne).trans ((Ext.box wb _).cell d1)
         have HX3:=Lib.hid hx3;have HOW:Hid (Q0q w1 w3.heap.size 3 (.int .i64) v' (Z6o t (t.basics.length + k + 1))):=by exact (by rw [Z7p,HCA.out]; exact Q0q.snoc hown':Q0q w1 w3.heap.size 3 (.int .i64) v' (Z6o t (t.basics.length + k + 1)))
         clear hown2 hgrow hown' hx3 hx2 hx xb hle hne
         by_cases hka:t.basics.length + k = at_
         · skip
           have HO1:Hid (Z6x OA at_ (t.basics.length + k + 1) = ch):=by exact (by rw [hka,J0q,← HOA.out,← Z9q HK.out,← hka]; exact HCA.out:Z6x OA at_ (t.basics.length + k + 1) = ch)
           have hq:(((k:Int) + (t.basics.length:Int)) == (at_:Int)) = true:=by rw [beq_iff_eq]; omega
           clear hka;have HKK:=Lib.hid (K0.out.ext HX3.out);have hkk_0:=HKK.out.cell 0;simp only [List.getElem?_toArray,List.getElem?_cons_zero,List.getElem?_cons_succ] at hkk_0;go_wp2;go_roundw
           case rel=>exact ⟨k + 1,by omega,by go_num,by rw [← Nat.add_assoc,HO1.out],by rw [← Nat.add_assoc]; exact HOW.out,HX3.out⟩
           case measure=>simp [intOf]; omega
         · skip
           have HO1:Hid (Z6x OA at_ (t.basics.length + k + 1) = Z6x OA at_ (t.basics.length + k)):=by exact (J0r hka:Z6x OA at_ (t.basics.length + k + 1) = Z6x OA at_ (t.basics.length + k))
           have hq:(((k:Int) + (t.basics.length:Int)) == (at_:Int)) = false:=by rw [beq_eq_false_iff_ne]; omega
           clear hka;have HKK:=Lib.hid (K0.out.ext HX3.out);have hkk_0:=HKK.out.cell 0;simp only [List.getElem?_toArray,List.getElem?_cons_zero,List.getElem?_cons_succ] at hkk_0;go_wp2;go_roundw
           case rel=>exact ⟨k + 1,by omega,by go_num,by rw [← Nat.add_assoc,HO1.out],by rw [← Nat.add_assoc]; exact HOW.out,HX3.out⟩
           case measure=>simp [intOf]; omega
       · obtain rfl:t.causes.length = k:=by omega
         have HCL:Hid (Z6o t (t.basics.length + t.causes.length) = t.Q0b):=by exact (rfl:Z6o t (t.basics.length + t.causes.length) = t.Q0b)
         have HOT:Hid (Z6x OA at_ (t.basics.length + t.causes.length) = OA):=by exact (J1o HKB.out:Z6x OA at_ (t.basics.length + t.causes.length) = OA)
         rw [HCL.out] at hown;rw [HOT.out];have HCS:=Lib.hid (hown.ints (by have:=HS2.out; rw [Q4v,HSS.out]; omega))
         obtain ⟨Ach,cch,hsh,_⟩:=hown.shape;subst hsh;clear hown hlt hk;obtain ⟨w4,hww⟩:∃ X,wr = X:=⟨_,rfl⟩;rw [hww] at hx HX HCS ⊢;clear hww;replace HTAB:=Lib.hid (HTAB.out.ext hx);replace K0:=Lib.hid (K0.out.ext hx);replace HT:=Lib.hid (HT.out.ext hx);clear hx hi hz0 hz1 hz2;replace HX:=Lib.hid (HXB1.out.trans HX.out);clear HXB1;obtain ⟨⟨pn,pd⟩,hp⟩:∃ r,Z6v t t.Q0b = r:=⟨_,rfl⟩;obtain ⟨⟨an,ad⟩,ha⟩:∃ r,onT t at_ = r:=⟨_,rfl⟩;obtain ⟨⟨bn,bd⟩,hb⟩:∃ r,J0s t at_ = r:=⟨_,rfl⟩;obtain ⟨⟨jn,jd⟩,hj⟩:∃ r,J2g t at_ = r:=⟨_,rfl⟩;obtain ⟨⟨un,ud⟩,hu⟩:∃ r,J0a t = r:=⟨_,rfl⟩;have HLF:=Lib.hid (J3d HV.out HSZ.out HK.out hp ha hb hj hu);rw [HOA.out] at HLF;have HP:=Lib.hid hp;have HA:=Lib.hid ha;have HB:=Lib.hid hb;have HJ:=Lib.hid hj;have HU2:=Lib.hid hu;clear hp ha hb hj hu;have k0_0:=K0.out.cell 0;have k0_1:=K0.out.cell 1;have k0_2:=K0.out.cell 2;simp only [List.getElem?_toArray,List.getElem?_cons_zero,List.getElem?_cons_succ] at k0_0 k0_1 k0_2;go_wp2_with fail;clear k0_0 k0_1 k0_2;refine (Y1m _ _ (t) ⟨_,_,_,rfl,HT.out⟩ HF.out).mono ?_;rintro e w5 ⟨uu,rfl,hu,hx⟩;have hxx:Ext w4 w5:=hx;replace HX:=Lib.hid (HX.out.trans hxx);replace HTAB:=Lib.hid (HTAB.out.ext hxx);replace K0:=Lib.hid (K0.out.ext hxx);replace HT:=Lib.hid (HT.out.ext hxx);replace HCS:=Lib.hid (HCS.out.ext hxx);have HU:=Lib.hid (hu);clear hu;clear hx hxx;go_wp2_with fail;refine (J0n _ _ t pn pd HE.out HP.out HU.out).mono ?_;rintro e w6 ⟨rfl,hx⟩;have hxx:Ext w5 w6:=hx;replace HX:=Lib.hid (HX.out.trans hxx);replace HTAB:=Lib.hid (HTAB.out.ext hxx);replace K0:=Lib.hid (K0.out.ext hxx);replace HT:=Lib.hid (HT.out.ext hxx);replace HCS:=Lib.hid (HCS.out.ext hxx);replace HU:=Lib.hid (HU.out.ext hxx);clear hx hxx;clear HU;have k0_0:=(K0.out.ext (Ext.box w6 (.cells #[.int .i64 pn,.int .i64 pd] 59))).cell 0;have k0_1:=(K0.out.ext (Ext.box w6 (.cells #[.int .i64 pn,.int .i64 pd] 59))).cell 1;have k0_2:=(K0.out.ext (Ext.box w6 (.cells #[.int .i64 pn,.int .i64 pd] 59))).cell 2;simp only [List.getElem?_toArray,List.getElem?_cons_zero,List.getElem?_cons_succ] at k0_0 k0_1 k0_2;go_wp2_with fail;clear k0_0 k0_1 k0_2;change Calls _ _ _ (w6.alloc (.cells #[.int .i64 pn,.int .i64 pd] 59)) _;have k0:=Blk.made w6 59 #[.int .i64 pn,.int .i64 pd];have x0:=Ext.box w6 (.cells #[.int .i64 pn,.int .i64 pd] 59);have es0:(w6.alloc (.cells #[.int .i64 pn,.int .i64 pd] 59)).heap.size = w6.heap.size + 1:=by simp
         obtain ⟨X0,hX0⟩:∃ X,w6.alloc (.cells #[.int .i64 pn,.int .i64 pd] 59) = X:=⟨_,rfl⟩;rw [hX0] at k0 x0 es0 ⊢;clear hX0;have e0:X0.heap.size = w6.heap.size + 1:=by omega
         have HXW:Hid (Ext w6 X0):=by exact (x0:Ext w6 X0)
         have eW:X0.heap.size = w6.heap.size + 1:=e0;clear x0 es0 e0;obtain ⟨W,hWW⟩:∃ W,X0 = W:=⟨_,rfl⟩;rw [hWW] at HXW eW ⊢ k0;clear hWW;refine (Y1m _ _ (t) ⟨_,_,_,rfl,HT.out.ext HXW.out⟩ HF.out).mono ?_;rintro e w7 ⟨uu,rfl,hu,hx⟩;have hxx:Ext w6 w7:=HXW.out.trans hx;replace HX:=Lib.hid (HX.out.trans hxx);replace HTAB:=Lib.hid (HTAB.out.ext hxx);replace K0:=Lib.hid (K0.out.ext hxx);replace HT:=Lib.hid (HT.out.ext hxx);replace HCS:=Lib.hid (HCS.out.ext hxx);have HU:=Lib.hid (hu);have K12:=Lib.hid (k0.ext hx);clear hu;clear hx hxx HXW eW k0;obtain ⟨g12,hg12⟩:∃ g,w6.heap.size = g:=⟨_,rfl⟩;rw [hg12] at K12 ⊢;clear hg12;go_wp2_with fail;change Calls _ _ _ (w7.alloc (.cells #[.int .i64 at_] 3)) _;have k0:=Blk.made w7 3 #[.int .i64 at_];have x0:=Ext.box w7 (.cells #[.int .i64 at_] 3);have es0:(w7.alloc (.cells #[.int .i64 at_] 3)).heap.size = w7.heap.size + 1:=by simp
         obtain ⟨X0,hX0⟩:∃ X,w7.alloc (.cells #[.int .i64 at_] 3) = X:=⟨_,rfl⟩;rw [hX0] at k0 x0 es0 ⊢;clear hX0;have e0:X0.heap.size = w7.heap.size + 1:=by omega
         have HXW:Hid (Ext w7 X0):=by exact (x0:Ext w7 X0)
         have eW:X0.heap.size = w7.heap.size + 1:=e0;clear x0 es0 e0;obtain ⟨W,hWW⟩:∃ W,X0 = W:=⟨_,rfl⟩;rw [hWW] at HXW eW ⊢ k0;clear hWW;refine (J2d _ _ _ t at_ an ad HE.out HK.out HA.out (HU.out.ext HXW.out) (Z8g k0)).mono ?_;rintro e w8 ⟨rfl,hx⟩;have hxx:Ext w7 w8:=HXW.out.trans hx;replace HX:=Lib.hid (HX.out.trans hxx);replace HTAB:=Lib.hid (HTAB.out.ext hxx);replace K0:=Lib.hid (K0.out.ext hxx);replace HT:=Lib.hid (HT.out.ext hxx);replace HCS:=Lib.hid (HCS.out.ext hxx);replace HU:=Lib.hid (HU.out.ext hxx);replace K12:=Lib.hid (K12.out.ext hxx);clear hx hxx HXW eW k0;clear HU;have k0_0:=(K0.out.ext (Ext.box w8 (.cells #[.int .i64 an,.int .i64 ad] 59))).cell 0;have k0_1:=(K0.out.ext (Ext.box w8 (.cells #[.int .i64 an,.int .i64 ad] 59))).cell 1;have k0_2:=(K0.out.ext (Ext.box w8 (.cells #[.int .i64 an,.int .i64 ad] 59))).cell 2;simp only [List.getElem?_toArray,List.getElem?_cons_zero,List.getElem?_cons_succ] at k0_0 k0_1 k0_2;go_wp2_with fail;clear k0_0 k0_1 k0_2;change Calls _ _ _ (w8.alloc (.cells #[.int .i64 an,.int .i64 ad] 59)) _;have k0:=Blk.made w8 59 #[.int .i64 an,.int .i64 ad];have x0:=Ext.box w8 (.cells #[.int .i64 an,.int .i64 ad] 59);have es0:(w8.alloc (.cells #[.int .i64 an,.int .i64 ad] 59)).heap.size = w8.heap.size + 1:=by simp
         obtain ⟨X0,hX0⟩:∃ X,w8.alloc (.cells #[.int .i64 an,.int .i64 ad] 59) = X:=⟨_,rfl⟩;rw [hX0] at k0 x0 es0 ⊢;clear hX0;have e0:X0.heap.size = w8.heap.size + 1:=by omega
         have HXW:Hid (Ext w8 X0):=by exact (x0:Ext w8 X0)
         have eW:X0.heap.size = w8.heap.size + 1:=e0;clear x0 es0 e0;obtain ⟨W,hWW⟩:∃ W,X0 = W:=⟨_,rfl⟩;rw [hWW] at HXW eW ⊢ k0;clear hWW;refine (Y1m _ _ (t) ⟨_,_,_,rfl,HT.out.ext HXW.out⟩ HF.out).mono ?_;rintro e w9 ⟨uu,rfl,hu,hx⟩;have hxx:Ext w8 w9:=HXW.out.trans hx;replace HX:=Lib.hid (HX.out.trans hxx);replace HTAB:=Lib.hid (HTAB.out.ext hxx);replace K0:=Lib.hid (K0.out.ext hxx);replace HT:=Lib.hid (HT.out.ext hxx);replace HCS:=Lib.hid (HCS.out.ext hxx);replace K12:=Lib.hid (K12.out.ext hxx);have HU:=Lib.hid (hu);have K14:=Lib.hid (k0.ext hx);clear hu;clear hx hxx HXW eW k0;obtain ⟨g14,hg14⟩:∃ g,w8.heap.size = g:=⟨_,rfl⟩;rw [hg14] at K14 ⊢;clear hg14;go_wp2_with fail;change Calls _ _ _ (w9.alloc (.cells #[.int .i64 at_] 3)) _;have k0:=Blk.made w9 3 #[.int .i64 at_];have x0:=Ext.box w9 (.cells #[.int .i64 at_] 3);have es0:(w9.alloc (.cells #[.int .i64 at_] 3)).heap.size = w9.heap.size + 1:=by simp
         obtain ⟨X0,hX0⟩:∃ X,w9.alloc (.cells #[.int .i64 at_] 3) = X:=⟨_,rfl⟩;rw [hX0] at k0 x0 es0 ⊢;clear hX0;have e0:X0.heap.size = w9.heap.size + 1:=by omega
         have HXW:Hid (Ext w9 X0):=by exact (x0:Ext w9 X0)
         have eW:X0.heap.size = w9.heap.size + 1:=e0;clear x0 es0 e0;obtain ⟨W,hWW⟩:∃ W,X0 = W:=⟨_,rfl⟩;rw [hWW] at HXW eW ⊢ k0;clear hWW;refine (Z8j _ _ _ t at_ bn bd HE.out HK.out HB.out (HU.out.ext HXW.out) (Z8g k0)).mono ?_;rintro e w10 ⟨rfl,hx⟩;have hxx:Ext w9 w10:=HXW.out.trans hx;replace HX:=Lib.hid (HX.out.trans hxx);replace HTAB:=Lib.hid (HTAB.out.ext hxx);replace K0:=Lib.hid (K0.out.ext hxx);replace HT:=Lib.hid (HT.out.ext hxx);replace HCS:=Lib.hid (HCS.out.ext hxx);replace K12:=Lib.hid (K12.out.ext hxx);replace HU:=Lib.hid (HU.out.ext hxx);replace K14:=Lib.hid (K14.out.ext hxx);clear hx hxx HXW eW k0;clear HU;have k0_0:=(K0.out.ext (Ext.box w10 (.cells #[.int .i64 bn,.int .i64 bd] 59))).cell 0;have k0_1:=(K0.out.ext (Ext.box w10 (.cells #[.int .i64 bn,.int .i64 bd] 59))).cell 1;have k0_2:=(K0.out.ext (Ext.box w10 (.cells #[.int .i64 bn,.int .i64 bd] 59))).cell 2;simp only [List.getElem?_toArray,List.getElem?_cons_zero,List.getElem?_cons_succ] at k0_0 k0_1 k0_2;go_wp2_with fail;clear k0_0 k0_1 k0_2;change Calls _ _ _ (w10.alloc (.cells #[.int .i64 bn,.int .i64 bd] 59)) _;have k0:=Blk.made w10 59 #[.int .i64 bn,.int .i64 bd];have x0:=Ext.box w10 (.cells #[.int .i64 bn,.int .i64 bd] 59);have es0:(w10.alloc (.cells #[.int .i64 bn,.int .i64 bd] 59)).heap.size = w10.heap.size + 1:=by simp
         obtain ⟨X0,hX0⟩:∃ X,w10.alloc (.cells #[.int .i64 bn,.int .i64 bd] 59) = X:=⟨_,rfl⟩;rw [hX0] at k0 x0 es0 ⊢;clear hX0;have e0:X0.heap.size = w10.heap.size + 1:=by omega
         have HXW:Hid (Ext w10 X0):=by exact (x0:Ext w10 X0)
         have eW:X0.heap.size = w10.heap.size + 1:=e0;clear x0 es0 e0;obtain ⟨W,hWW⟩:∃ W,X0 = W:=⟨_,rfl⟩;rw [hWW] at HXW eW ⊢ k0;clear hWW;refine (Y1m _ _ (t) ⟨_,_,_,rfl,HT.out.ext HXW.out⟩ HF.out).mono ?_;rintro e w11 ⟨uu,rfl,hu,hx⟩;have hxx:Ext w10 w11:=HXW.out.trans hx;replace HX:=Lib.hid (HX.out.trans hxx);replace HTAB:=Lib.hid (HTAB.out.ext hxx);replace K0:=Lib.hid (K0.out.ext hxx);replace HT:=Lib.hid (HT.out.ext hxx);replace HCS:=Lib.hid (HCS.out.ext hxx);replace K12:=Lib.hid (K12.out.ext hxx);replace K14:=Lib.hid (K14.out.ext hxx);have HU:=Lib.hid (hu);have K16:=Lib.hid (k0.ext hx);clear hu;clear hx hxx HXW eW k0;obtain ⟨g16,hg16⟩:∃ g,w10.heap.size = g:=⟨_,rfl⟩;rw [hg16] at K16 ⊢;clear hg16;go_wp2_with fail;refine (J2z _ _ t at_ jn jd HV.out HE.out HK.out HJ.out HU.out).mono ?_;rintro e w12 ⟨rfl,hx⟩;have hxx:Ext w11 w12:=hx;replace HX:=Lib.hid (HX.out.trans hxx);replace HTAB:=Lib.hid (HTAB.out.ext hxx);replace K0:=Lib.hid (K0.out.ext hxx);replace HT:=Lib.hid (HT.out.ext hxx);replace HCS:=Lib.hid (HCS.out.ext hxx);replace K12:=Lib.hid (K12.out.ext hxx);replace K14:=Lib.hid (K14.out.ext hxx);replace HU:=Lib.hid (HU.out.ext hxx);replace K16:=Lib.hid (K16.out.ext hxx);clear hx hxx;clear HU;have k0_0:=(K0.out.ext (Ext.box w12 (.cells #[.int .i64 jn,.int .i64 jd] 59))).cell 0;have k0_1:=(K0.out.ext (Ext.box w12 (.cells #[.int .i64 jn,.int .i64 jd] 59))).cell 1;have k0_2:=(K0.out.ext (Ext.box w12 (.cells #[.int .i64 jn,.int .i64 jd] 59))).cell 2;simp only [List.getElem?_toArray,List.getElem?_cons_zero,List.getElem?_cons_succ] at k0_0 k0_1 k0_2;go_wp2_with fail;clear k0_0 k0_1 k0_2;change Calls _ _ _ (w12.alloc (.cells #[.int .i64 jn,.int .i64 jd] 59)) _;have k0:=Blk.made w12 59 #[.int .i64 jn,.int .i64 jd];have x0:=Ext.box w12 (.cells #[.int .i64 jn,.int .i64 jd] 59);have es0:(w12.alloc (.cells #[.int .i64 jn,.int .i64 jd] 59)).heap.size = w12.heap.size + 1:=by simp
         obtain ⟨X0,hX0⟩:∃ X,w12.alloc (.cells #[.int .i64 jn,.int .i64 jd] 59) = X:=⟨_,rfl⟩;rw [hX0] at k0 x0 es0 ⊢;clear hX0;have e0:X0.heap.size = w12.heap.size + 1:=by omega
         have HXW:Hid (Ext w12 X0):=by exact (x0:Ext w12 X0)
         have eW:X0.heap.size = w12.heap.size + 1:=e0;clear x0 es0 e0;obtain ⟨W,hWW⟩:∃ W,X0 = W:=⟨_,rfl⟩;rw [hWW] at HXW eW ⊢ k0;clear hWW;refine (Y1m _ _ (t) ⟨_,_,_,rfl,HT.out.ext HXW.out⟩ HF.out).mono ?_;rintro e w13 ⟨uu,rfl,hu,hx⟩;have hxx:Ext w12 w13:=HXW.out.trans hx;replace HX:=Lib.hid (HX.out.trans hxx);replace HTAB:=Lib.hid (HTAB.out.ext hxx);replace K0:=Lib.hid (K0.out.ext hxx);replace HT:=Lib.hid (HT.out.ext hxx);replace HCS:=Lib.hid (HCS.out.ext hxx);replace K12:=Lib.hid (K12.out.ext hxx);replace K14:=Lib.hid (K14.out.ext hxx);replace K16:=Lib.hid (K16.out.ext hxx);have HU:=Lib.hid (hu);have K18:=Lib.hid (k0.ext hx);clear hu;clear hx hxx HXW eW k0;obtain ⟨g18,hg18⟩:∃ g,w12.heap.size = g:=⟨_,rfl⟩;rw [hg18] at K18 ⊢;clear hg18;go_wp2_with fail;refine (J2m _ _ t un ud HE.out HU2.out HU.out HTAB.out).mono ?_;rintro e w14 ⟨rfl,hx⟩;have hxx:Ext w13 w14:=hx;replace HX:=Lib.hid (HX.out.trans hxx);replace HTAB:=Lib.hid (HTAB.out.ext hxx);replace K0:=Lib.hid (K0.out.ext hxx);replace HT:=Lib.hid (HT.out.ext hxx);replace HCS:=Lib.hid (HCS.out.ext hxx);replace K12:=Lib.hid (K12.out.ext hxx);replace K14:=Lib.hid (K14.out.ext hxx);replace K16:=Lib.hid (K16.out.ext hxx);replace HU:=Lib.hid (HU.out.ext hxx);replace K18:=Lib.hid (K18.out.ext hxx);clear hx hxx;clear HU;have k0_0:=(K0.out.ext (Ext.box w14 (.cells #[.int .i64 un,.int .i64 ud] 59))).cell 0;have k0_1:=(K0.out.ext (Ext.box w14 (.cells #[.int .i64 un,.int .i64 ud] 59))).cell 1;have k0_2:=(K0.out.ext (Ext.box w14 (.cells #[.int .i64 un,.int .i64 ud] 59))).cell 2;simp only [List.getElem?_toArray,List.getElem?_cons_zero,List.getElem?_cons_succ] at k0_0 k0_1 k0_2;go_wp2_with fail;clear k0_0 k0_1 k0_2;change Calls _ _ _ (w14.alloc (.cells #[.int .i64 un,.int .i64 ud] 59)) _;have k0:=Blk.made w14 59 #[.int .i64 un,.int .i64 ud];have x0:=Ext.box w14 (.cells #[.int .i64 un,.int .i64 ud] 59);have es0:(w14.alloc (.cells #[.int .i64 un,.int .i64 ud] 59)).heap.size = w14.heap.size + 1:=by simp
         obtain ⟨X0,hX0⟩:∃ X,w14.alloc (.cells #[.int .i64 un,.int .i64 ud] 59) = X:=⟨_,rfl⟩;rw [hX0] at k0 x0 es0 ⊢;clear hX0;have e0:X0.heap.size = w14.heap.size + 1:=by omega
         have HXW:Hid (Ext w14 X0):=by exact (x0:Ext w14 X0)
         have eW:X0.heap.size = w14.heap.size + 1:=e0;clear x0 es0 e0;obtain ⟨W,hWW⟩:∃ W,X0 = W:=⟨_,rfl⟩;rw [hWW] at HXW eW ⊢ k0;clear hWW;refine (Y1m _ _ (t) ⟨_,_,_,rfl,HT.out.ext HXW.out⟩ HF.out).mono ?_;rintro e w15 ⟨uu,rfl,hu,hx⟩;have hxx:Ext w14 w15:=HXW.out.trans hx;replace HX:=Lib.hid (HX.out.trans hxx);replace HTAB:=Lib.hid (HTAB.out.ext hxx);replace K0:=Lib.hid (K0.out.ext hxx);replace HT:=Lib.hid (HT.out.ext hxx);replace HCS:=Lib.hid (HCS.out.ext hxx);replace K12:=Lib.hid (K12.out.ext hxx);replace K14:=Lib.hid (K14.out.ext hxx);replace K16:=Lib.hid (K16.out.ext hxx);replace K18:=Lib.hid (K18.out.ext hxx);have HU:=Lib.hid (hu);have K20:=Lib.hid (k0.ext hx);clear hu;clear hx hxx HXW eW k0;obtain ⟨g20,hg20⟩:∃ g,w14.heap.size = g:=⟨_,rfl⟩;rw [hg20] at K20 ⊢;clear hg20;go_wp2_with fail;refine (J0u _ _ _ t pn pd HV.out HE.out HP.out HU.out HCS.out).mono ?_;rintro e w16 ⟨rfl,hx⟩;have hxx:Ext w15 w16:=hx;replace HX:=Lib.hid (HX.out.trans hxx);clear HCS;replace HTAB:=Lib.hid (HTAB.out.ext hxx);replace K0:=Lib.hid (K0.out.ext hxx);replace HT:=Lib.hid (HT.out.ext hxx);replace K12:=Lib.hid (K12.out.ext hxx);replace K14:=Lib.hid (K14.out.ext hxx);replace K16:=Lib.hid (K16.out.ext hxx);replace K18:=Lib.hid (K18.out.ext hxx);replace HU:=Lib.hid (HU.out.ext hxx);replace K20:=Lib.hid (K20.out.ext hxx);clear hx hxx;clear HU;have HKN:=Lib.hid (Blk.made w16 85 #[.int .i64 pn,.int .i64 pd,.int .i64 pn,.int .i64 pd]);have hxn:=Ext.box w16 (.cells #[.int .i64 pn,.int .i64 pd,.int .i64 pn,.int .i64 pd] 85);go_upto_region 26 with fail;replace HX:=Lib.hid (HX.out.trans hxn);replace HTAB:=Lib.hid (HTAB.out.ext hxn);replace K0:=Lib.hid (K0.out.ext hxn);replace HT:=Lib.hid (HT.out.ext hxn);replace K12:=Lib.hid (K12.out.ext hxn);replace K14:=Lib.hid (K14.out.ext hxn);replace K16:=Lib.hid (K16.out.ext hxn);replace K18:=Lib.hid (K18.out.ext hxn);replace K20:=Lib.hid (K20.out.ext hxn);have K22:=Lib.hid (HKN.out);clear HKN hxn;obtain ⟨g22,hg22⟩:∃ g,w16.heap.size = g:=⟨_,rfl⟩;rw [hg22] at K22 ⊢;obtain ⟨w17,hww⟩:∃ X,w16.alloc (.cells #[.int .i64 pn,.int .i64 pd,.int .i64 pn,.int .i64 pd] 85) = X:=⟨_,rfl⟩;rw [hww] at HX HTAB K0 HT K12 K14 K16 K18 K20 K22 ⊢;clear hww hg22;have k12_0:=K12.out.cell 0;have k12_1:=K12.out.cell 1;simp only [List.getElem?_toArray,List.getElem?_cons_zero,List.getElem?_cons_succ] at k12_0 k12_1;have k14_0:=K14.out.cell 0;have k14_1:=K14.out.cell 1;simp only [List.getElem?_toArray,List.getElem?_cons_zero,List.getElem?_cons_succ] at k14_0 k14_1;have k16_0:=K16.out.cell 0;have k16_1:=K16.out.cell 1;simp only [List.getElem?_toArray,List.getElem?_cons_zero,List.getElem?_cons_succ] at k16_0 k16_1;have k18_0:=K18.out.cell 0;have k18_1:=K18.out.cell 1;simp only [List.getElem?_toArray,List.getElem?_cons_zero,List.getElem?_cons_succ] at k18_0 k18_1;have k20_0:=K20.out.cell 0;have k20_1:=K20.out.cell 1;simp only [List.getElem?_toArray,List.getElem?_cons_zero,List.getElem?_cons_succ] at k20_0 k20_1;have k22_0:=K22.out.cell 0;have k22_1:=K22.out.cell 1;have k22_2:=K22.out.cell 2;have k22_3:=K22.out.cell 3;simp only [List.getElem?_toArray,List.getElem?_cons_zero,List.getElem?_cons_succ] at k22_0 k22_1 k22_2 k22_3;have hle1:¬ pd < pn:=by have:=HLF.out.one; omega
         have HRS:Hid (∀ x ∈ [(⟨pn,pd⟩:Ratio),⟨an,ad⟩,⟨bn,bd⟩,⟨jn,jd⟩,⟨un,ud⟩],Z6m x):=by exact (fun x hx=>by
          simp only [List.mem_cons,List.not_mem_nil,or_false] at hx
          rcases hx with rfl | rfl | rfl | rfl | rfl
          · exact HLF.out.rp
          · exact HLF.out.ra
          · exact HLF.out.rb
          · exact HLF.out.rj
          · exact HLF.out.ru:∀ x ∈ [(⟨pn,pd⟩:Ratio),⟨an,ad⟩,⟨bn,bd⟩,⟨jn,jd⟩,⟨un,ud⟩],Z6m x)
         go_wp2_with fail;clear k12_0 k12_1 k14_0 k14_1 k16_0 k16_1 k18_0 k18_1 k20_0 k20_1 k22_0 k22_1 k22_2 k22_3;change Calls _ _ _ (w17.alloc (.cells #[.int .i64 pn,.int .i64 pd,.int .i64 an,.int .i64 ad,.int .i64 bn,.int .i64 bd,.int .i64 jn,.int .i64 jd,.int .i64 un,.int .i64 ud] 59)) _;have k0:=Blk.made w17 59 #[.int .i64 pn,.int .i64 pd,.int .i64 an,.int .i64 ad,.int .i64 bn,.int .i64 bd,.int .i64 jn,.int .i64 jd,.int .i64 un,.int .i64 ud];have x0:=Ext.box w17 (.cells #[.int .i64 pn,.int .i64 pd,.int .i64 an,.int .i64 ad,.int .i64 bn,.int .i64 bd,.int .i64 jn,.int .i64 jd,.int .i64 un,.int .i64 ud] 59);have es0:(w17.alloc (.cells #[.int .i64 pn,.int .i64 pd,.int .i64 an,.int .i64 ad,.int .i64 bn,.int .i64 bd,.int .i64 jn,.int .i64 jd,.int .i64 un,.int .i64 ud] 59)).heap.size = w17.heap.size + 1:=by simp
         obtain ⟨X0,hX0⟩:∃ X,w17.alloc (.cells #[.int .i64 pn,.int .i64 pd,.int .i64 an,.int .i64 ad,.int .i64 bn,.int .i64 bd,.int .i64 jn,.int .i64 jd,.int .i64 un,.int .i64 ud] 59) = X:=⟨_,rfl⟩;rw [hX0] at k0 x0 es0 ⊢;clear hX0;have e0:X0.heap.size = w17.heap.size + 1:=by omega
         have HXW:Hid (Ext w17 X0):=by exact (x0:Ext w17 X0)
         have eW:X0.heap.size = w17.heap.size + 1:=e0;clear x0 es0 e0;obtain ⟨W,hWW⟩:∃ W,X0 = W:=⟨_,rfl⟩;rw [hWW] at HXW eW ⊢ k0;clear hWW;refine (Z8u _ _ [⟨pn,pd⟩,⟨an,ad⟩,⟨bn,bd⟩,⟨jn,jd⟩,⟨un,ud⟩] (Z8h (l:=[⟨pn,pd⟩,⟨an,ad⟩,⟨bn,bd⟩,⟨jn,jd⟩,⟨un,ud⟩]) (by simp) k0) HRS.out).mono ?_
         rintro e w18 ⟨rfl,hx⟩;have hxx:Ext w17 w18:=HXW.out.trans hx;replace HX:=Lib.hid (HX.out.trans hxx);replace HTAB:=Lib.hid (HTAB.out.ext hxx);replace K0:=Lib.hid (K0.out.ext hxx);replace HT:=Lib.hid (HT.out.ext hxx);replace K12:=Lib.hid (K12.out.ext hxx);replace K14:=Lib.hid (K14.out.ext hxx);replace K16:=Lib.hid (K16.out.ext hxx);replace K18:=Lib.hid (K18.out.ext hxx);replace K20:=Lib.hid (K20.out.ext hxx);replace K22:=Lib.hid (K22.out.ext hxx);clear hx hxx HXW eW k0;have k12_0:=K12.out.cell 0;have k12_1:=K12.out.cell 1;simp only [List.getElem?_toArray,List.getElem?_cons_zero,List.getElem?_cons_succ] at k12_0 k12_1;have k20_0:=K20.out.cell 0;have k20_1:=K20.out.cell 1;simp only [List.getElem?_toArray,List.getElem?_cons_zero,List.getElem?_cons_succ] at k20_0 k20_1;have k22_0:=K22.out.cell 0;have k22_1:=K22.out.cell 1;have k22_2:=K22.out.cell 2;have k22_3:=K22.out.cell 3;simp only [List.getElem?_toArray,List.getElem?_cons_zero,List.getElem?_cons_succ] at k22_0 k22_1 k22_2 k22_3;go_wp2_with fail;clear k12_0 k12_1 k20_0 k20_1 k22_0 k22_1 k22_2 k22_3;refine (Z9l _ pn pd un ud HLF.out.rp HLF.out.ru).mono ?_;rintro e w19 ⟨x1,rfl,hc1,_,_,hx⟩;have hxx:Ext w18 w19:=hx;replace HX:=Lib.hid (HX.out.trans hxx);replace HTAB:=Lib.hid (HTAB.out.ext hxx);replace K0:=Lib.hid (K0.out.ext hxx);replace HT:=Lib.hid (HT.out.ext hxx);replace K12:=Lib.hid (K12.out.ext hxx);replace K14:=Lib.hid (K14.out.ext hxx);replace K16:=Lib.hid (K16.out.ext hxx);replace K18:=Lib.hid (K18.out.ext hxx);replace K20:=Lib.hid (K20.out.ext hxx);replace K22:=Lib.hid (K22.out.ext hxx);have hx1n:¬ 0 < x1:=by have:=hc1 HLF.out.bound; omega
         clear hc1;clear hx hxx;go_upto_region 28 with fail;clear hle1 hx1n HRS;have HPR:=Lib.hid (J3g HLF.out);have HLO1:Hid (∀ w,Calls Tryz.prog 50 #[.int .i64 (OA * an * bd + (16 - OA) * bn * ad),.int .i64 (16 * ad * bd)] w fun e w'=>e = .returned (.agg #[.int .i64 pn,.int .i64 pd]) ∧ Ext w w'):=by
          refine Lib.hid fun w=>?_;have h:=Z7o w _ _ HPR.out.b1.1 HPR.out.b1.2 HPR.out.b2.1 HPR.out.b2.2;rw [HLF.out.mix] at h;exact h
         have HLO2:Hid (∀ w,Calls Tryz.prog 50 #[.int .i64 (an * bd - bn * ad),.int .i64 (ad * bd)] w fun e w'=>e = .returned (.agg #[.int .i64 jn,.int .i64 jd]) ∧ Ext w w'):=by
          refine Lib.hid fun w=>?_;have h:=Z7o w _ _ HPR.out.b3.1 HPR.out.b3.2 HPR.out.b4.1 HPR.out.b4.2;rw [HLF.out.diff] at h;exact h
         obtain ⟨_,_,_,_,y1,y2,y3,y4,y5,y6,y7,y8,y9,y10,y11,y12⟩:=HPR.out;clear HPR;have hdr:=(Ext.refl w19).drew;refine Flow.Q3g [.plain,.plain,.world,.plain,.plain,.world,.plain,.plain,.plain,.plain,.world,.plain,.plain,.world,.plain,.plain,.plain,.world,.plain,.plain,.world,.plain,.world,.world,.plain,.plain,.plain,.world,.plain,.world,.plain,.plain,.world,.plain,.world,.plain,.plain,.plain,.world,.plain,.world,.plain,.world,.world,.plain,.plain] [0,1,2,3,4,5,6,7,8,9,10,11,12,13,14,15,16,17,18,19,20,21,22,23,24,25,26,27,28,29,30,31,32,33,34,35,36,37,38,39,40,41,42,43,44,45] [[],[],[1],[0,2],[],[4],[3,5],[],[7],[],[9],[8,10],[],[12],[11,13],[6,14],[],[16],[17],[],[19],[18,20],[15,21],[],[22,23],[22,24],[25],[25,26],[25],[25,28],[25,27,29],[25],[25,31],[25],[25,33],[25,32,34],[25,30,35],[25],[25,37],[25],[25,39],[25,38,40],[25,36,41],[25],[25,42,43],[25,44]]
          [.is 0 (fun v=>.int .i64 OA),.is 1 (fun v=>.pointer (some ⟨g14,0,none⟩)),.is 2 (fun v=>.int .i64 an),.is 3 (fun v=>.int .i64 (OA * an)),.is 4 (fun v=>.pointer (some ⟨g16,1,none⟩)),.is 5 (fun v=>.int .i64 bd),.is 6 (fun v=>.int .i64 (OA * an * bd)),.is 7 (fun v=>.int .i64 OA),.is 8 (fun v=>.int .i64 (16 - OA)),.is 9 (fun v=>.pointer (some ⟨g16,0,none⟩)),.is 10 (fun v=>.int .i64 bn),.is 11 (fun v=>.int .i64 ((16 - OA) * bn)),.is 12 (fun v=>.pointer (some ⟨g14,1,none⟩)),.is 13 (fun v=>.int .i64 ad),.is 14 (fun v=>.int .i64 ((16 - OA) * bn * ad)),.is 15 (fun v=>.int .i64 (OA * an * bd + (16 - OA) * bn * ad)),.is 16 (fun v=>.pointer (some ⟨g14,1,none⟩)),.is 17 (fun v=>.int .i64 ad),.is 18 (fun v=>.int .i64 (16 * ad)),.is 19 (fun v=>.pointer (some ⟨g16,1,none⟩)),.is 20 (fun v=>.int .i64 bd),.is 21 (fun v=>.int .i64 (16 * ad * bd)),.is 22 (fun v=>.agg #[.int .i64 pn,.int .i64 pd]),.is 23 (fun v=>.agg #[.int .i64 pn,.int .i64 pd]),.is 24 (fun v=>.bool false),.is 25 (fun v=>.bool false),.is 26 (fun v=>.pointer (some ⟨g14,0,none⟩)),.is 27 (fun v=>.int .i64 an),.is 28 (fun v=>.pointer (some ⟨g16,1,none⟩)),.is 29 (fun v=>.int .i64 bd),.is 30 (fun v=>.int .i64 (an * bd)),.is 31 (fun v=>.pointer (some ⟨g16,0,none⟩)),.is 32 (fun v=>.int .i64 bn),.is 33 (fun v=>.pointer (some ⟨g14,1,none⟩)),.is 34 (fun v=>.int .i64 ad),.is 35 (fun v=>.int .i64 (bn * ad)),.is 36 (fun v=>.int .i64 (an * bd - bn * ad)),.is 37 (fun v=>.pointer (some ⟨g14,1,none⟩)),.is 38 (fun v=>.int .i64 ad),.is 39 (fun v=>.pointer (some ⟨g16,1,none⟩)),.is 40 (fun v=>.int .i64 bd),.is 41 (fun v=>.int .i64 (ad * bd)),.is 42 (fun v=>.agg #[.int .i64 jn,.int .i64 jd]),.is 43 (fun v=>.agg #[.int .i64 jn,.int .i64 jd]),.is 44 (fun v=>.bool false),.is 45 (fun v=>.bool false)]
          (by kernel_rfl) rfl (by kernel_rfl) ⟨?g0,?g1,?g2,?g3,?g4,?g5,?g6,?g7,?g8,?g9,?g10,?g11,?g12,?g13,?g14,?g15,?g16,?g17,?g18,?g19,?g20,?g21,?g22,?g23,?g24,?g25,?g26,?g27,?g28,?g29,?g30,?g31,?g32,?g33,?g34,?g35,?g36,?g37,?g38,?g39,?g40,?g41,?g42,?g43,?g44,?g45,trivial⟩ ?post
         case g0 =>
          as_aux_lemma =>
          intro v w1 hx;intro bb hbb;have fo0:bb.eval (.tmp 6) = .int .i64 OA:=by rw [hbb]; dsimp only; (try simp (discharger:=decide) only [Flow.eval_put_ne,Flow.X0y]); rfl
          clear hbb;refine ⟨_,fun w=>?_,rfl⟩;unfold execOp;simp only [fo0];clear fo0;go_simp
         case g1 =>
          as_aux_lemma =>
          intro v w1 hx;intro bb hbb;have fo0:bb.eval (.tmp 14) = .pointer (some ⟨g14,0,none⟩):=by rw [hbb]; dsimp only; (try simp (discharger:=decide) only [Flow.eval_put_ne,Flow.X0y]); rfl
          clear hbb;refine ⟨_,fun w=>?_,rfl⟩;unfold execOp;simp only [fo0];clear fo0;go_simp
         case g2 =>
          as_aux_lemma =>
          intro v w1 hx (q1:v 1 = .pointer (some ⟨g14,0,none⟩));intro bb hbb;have n0:w1.cell? ⟨g14,0,none⟩ = some (.int .i64 an):=(K14.out.ext (hdr.trans hx)).cell 0;have fo0:bb.eval (.tmp 184) = .pointer (some ⟨g14,0,none⟩):=by rw [hbb]; dsimp only; (try simp (discharger:=decide) only [Flow.eval_put_ne,Flow.X0y]); rw [Flow.Q0a (by simp only [Flow.size_put]; exact (by decide:184 < 381))]; exact q1
          clear hbb;intro K hK;unfold execOp;simp only [fo0];clear fo0;go_simp;exact hK _ _ (Ext.refl _) rfl
         case g3 =>
          as_aux_lemma =>
          intro v w1 hx (q0:v 0 = .int .i64 OA) (q2:v 2 = .int .i64 an);intro bb hbb;have fo0:bb.eval (.tmp 183) = .int .i64 OA:=by rw [hbb]; dsimp only; (try simp (discharger:=decide) only [Flow.eval_put_ne,Flow.X0y]); rw [Flow.Q0a (by simp only [Flow.size_put]; exact (by decide:183 < 381))]; exact q0
          have fo1:bb.eval (.tmp 185) = .int .i64 an:=by rw [hbb]; dsimp only; (try simp (discharger:=decide) only [Flow.eval_put_ne,Flow.X0y]); rw [Flow.Q0a (by simp only [Flow.size_put]; exact (by decide:185 < 381))]; exact q2
          clear hbb;refine ⟨_,fun w=>?_,rfl⟩;unfold execOp;simp only [fo0,fo1];clear fo0 fo1;go_simp
         case g4 =>
          as_aux_lemma =>
          intro v w1 hx;intro bb hbb;have fo0:bb.eval (.tmp 16) = .pointer (some ⟨g16,0,none⟩):=by rw [hbb]; dsimp only; (try simp (discharger:=decide) only [Flow.eval_put_ne,Flow.X0y]); rfl
          clear hbb;refine ⟨_,fun w=>?_,rfl⟩;unfold execOp;simp only [fo0];clear fo0;go_simp
         case g5 =>
          as_aux_lemma =>
          intro v w1 hx (q4:v 4 = .pointer (some ⟨g16,1,none⟩));intro bb hbb;have n0:w1.cell? ⟨g16,1,none⟩ = some (.int .i64 bd):=(K16.out.ext (hdr.trans hx)).cell 1;have fo0:bb.eval (.tmp 187) = .pointer (some ⟨g16,1,none⟩):=by rw [hbb]; dsimp only; (try simp (discharger:=decide) only [Flow.eval_put_ne,Flow.X0y]); rw [Flow.Q0a (by simp only [Flow.size_put]; exact (by decide:187 < 381))]; exact q4
          clear hbb;intro K hK;unfold execOp;simp only [fo0];clear fo0;go_simp;exact hK _ _ (Ext.refl _) rfl
         case g6 =>
          as_aux_lemma =>
          intro v w1 hx (q3:v 3 = .int .i64 (OA * an)) (q5:v 5 = .int .i64 bd);intro bb hbb;have fo0:bb.eval (.tmp 186) = .int .i64 (OA * an):=by rw [hbb]; dsimp only; (try simp (discharger:=decide) only [Flow.eval_put_ne,Flow.X0y]); rw [Flow.Q0a (by simp only [Flow.size_put]; exact (by decide:186 < 381))]; exact q3
          have fo1:bb.eval (.tmp 188) = .int .i64 bd:=by rw [hbb]; dsimp only; (try simp (discharger:=decide) only [Flow.eval_put_ne,Flow.X0y]); rw [Flow.Q0a (by simp only [Flow.size_put]; exact (by decide:188 < 381))]; exact q5
          clear hbb;refine ⟨_,fun w=>?_,rfl⟩;unfold execOp;simp only [fo0,fo1];clear fo0 fo1;go_simp
         case g7 =>
          as_aux_lemma =>
          intro v w1 hx;intro bb hbb;have fo0:bb.eval (.tmp 6) = .int .i64 OA:=by rw [hbb]; dsimp only; (try simp (discharger:=decide) only [Flow.eval_put_ne,Flow.X0y]); rfl
          clear hbb;refine ⟨_,fun w=>?_,rfl⟩;unfold execOp;simp only [fo0];clear fo0;go_simp
         case g8 =>
          as_aux_lemma =>
          intro v w1 hx (q7:v 7 = .int .i64 OA);intro bb hbb;have fo0:bb.eval (.tmp 190) = .int .i64 OA:=by rw [hbb]; dsimp only; (try simp (discharger:=decide) only [Flow.eval_put_ne,Flow.X0y]); rw [Flow.Q0a (by simp only [Flow.size_put]; exact (by decide:190 < 381))]; exact q7
          clear hbb;refine ⟨_,fun w=>?_,rfl⟩;unfold execOp;simp only [fo0];clear fo0;go_simp
         case g9 =>
          as_aux_lemma =>
          intro v w1 hx;intro bb hbb;have fo0:bb.eval (.tmp 16) = .pointer (some ⟨g16,0,none⟩):=by rw [hbb]; dsimp only; (try simp (discharger:=decide) only [Flow.eval_put_ne,Flow.X0y]); rfl
          clear hbb;refine ⟨_,fun w=>?_,rfl⟩;unfold execOp;simp only [fo0];clear fo0;go_simp
         case g10 =>
          as_aux_lemma =>
          intro v w1 hx (q9:v 9 = .pointer (some ⟨g16,0,none⟩));intro bb hbb;have n0:w1.cell? ⟨g16,0,none⟩ = some (.int .i64 bn):=(K16.out.ext (hdr.trans hx)).cell 0;have fo0:bb.eval (.tmp 192) = .pointer (some ⟨g16,0,none⟩):=by rw [hbb]; dsimp only; (try simp (discharger:=decide) only [Flow.eval_put_ne,Flow.X0y]); rw [Flow.Q0a (by simp only [Flow.size_put]; exact (by decide:192 < 381))]; exact q9
          clear hbb;intro K hK;unfold execOp;simp only [fo0];clear fo0;go_simp;exact hK _ _ (Ext.refl _) rfl
         case g11 =>
          as_aux_lemma =>
          intro v w1 hx (q8:v 8 = .int .i64 (16 - OA)) (q10:v 10 = .int .i64 bn);intro bb hbb;have fo0:bb.eval (.tmp 191) = .int .i64 (16 - OA):=by rw [hbb]; dsimp only; (try simp (discharger:=decide) only [Flow.eval_put_ne,Flow.X0y]); rw [Flow.Q0a (by simp only [Flow.size_put]; exact (by decide:191 < 381))]; exact q8
          have fo1:bb.eval (.tmp 193) = .int .i64 bn:=by rw [hbb]; dsimp only; (try simp (discharger:=decide) only [Flow.eval_put_ne,Flow.X0y]); rw [Flow.Q0a (by simp only [Flow.size_put]; exact (by decide:193 < 381))]; exact q10
          clear hbb;refine ⟨_,fun w=>?_,rfl⟩;unfold execOp;simp only [fo0,fo1];clear fo0 fo1;go_simp
         case g12 =>
          as_aux_lemma =>
          intro v w1 hx;intro bb hbb;have fo0:bb.eval (.tmp 14) = .pointer (some ⟨g14,0,none⟩):=by rw [hbb]; dsimp only; (try simp (discharger:=decide) only [Flow.eval_put_ne,Flow.X0y]); rfl
          clear hbb;refine ⟨_,fun w=>?_,rfl⟩;unfold execOp;simp only [fo0];clear fo0;go_simp
         case g13 =>
          as_aux_lemma =>
          intro v w1 hx (q12:v 12 = .pointer (some ⟨g14,1,none⟩));intro bb hbb;have n0:w1.cell? ⟨g14,1,none⟩ = some (.int .i64 ad):=(K14.out.ext (hdr.trans hx)).cell 1;have fo0:bb.eval (.tmp 195) = .pointer (some ⟨g14,1,none⟩):=by rw [hbb]; dsimp only; (try simp (discharger:=decide) only [Flow.eval_put_ne,Flow.X0y]); rw [Flow.Q0a (by simp only [Flow.size_put]; exact (by decide:195 < 381))]; exact q12
          clear hbb;intro K hK;unfold execOp;simp only [fo0];clear fo0;go_simp;exact hK _ _ (Ext.refl _) rfl
         case g14 =>
          as_aux_lemma =>
          intro v w1 hx (q11:v 11 = .int .i64 ((16 - OA) * bn)) (q13:v 13 = .int .i64 ad);intro bb hbb;have fo0:bb.eval (.tmp 194) = .int .i64 ((16 - OA) * bn):=by rw [hbb]; dsimp only; (try simp (discharger:=decide) only [Flow.eval_put_ne,Flow.X0y]); rw [Flow.Q0a (by simp only [Flow.size_put]; exact (by decide:194 < 381))]; exact q11
          have fo1:bb.eval (.tmp 196) = .int .i64 ad:=by rw [hbb]; dsimp only; (try simp (discharger:=decide) only [Flow.eval_put_ne,Flow.X0y]); rw [Flow.Q0a (by simp only [Flow.size_put]; exact (by decide:196 < 381))]; exact q13
          clear hbb;refine ⟨_,fun w=>?_,rfl⟩;unfold execOp;simp only [fo0,fo1];clear fo0 fo1;go_simp
         case g15 =>
          as_aux_lemma =>
          intro v w1 hx (q6:v 6 = .int .i64 (OA * an * bd)) (q14:v 14 = .int .i64 ((16 - OA) * bn * ad));intro bb hbb;have fo0:bb.eval (.tmp 189) = .int .i64 (OA * an * bd):=by rw [hbb]; dsimp only; (try simp (discharger:=decide) only [Flow.eval_put_ne,Flow.X0y]); rw [Flow.Q0a (by simp only [Flow.size_put]; exact (by decide:189 < 381))]; exact q6
          have fo1:bb.eval (.tmp 197) = .int .i64 ((16 - OA) * bn * ad):=by rw [hbb]; dsimp only; (try simp (discharger:=decide) only [Flow.eval_put_ne,Flow.X0y]); rw [Flow.Q0a (by simp only [Flow.size_put]; exact (by decide:197 < 381))]; exact q14
          clear hbb;refine ⟨_,fun w=>?_,rfl⟩;unfold execOp;simp only [fo0,fo1];clear fo0 fo1;go_simp
         case g16 =>
          as_aux_lemma =>
          intro v w1 hx;intro bb hbb;have fo0:bb.eval (.tmp 14) = .pointer (some ⟨g14,0,none⟩):=by rw [hbb]; dsimp only; (try simp (discharger:=decide) only [Flow.eval_put_ne,Flow.X0y]); rfl
          clear hbb;refine ⟨_,fun w=>?_,rfl⟩;unfold execOp;simp only [fo0];clear fo0;go_simp
         case g17 =>
          as_aux_lemma =>
          intro v w1 hx (q16:v 16 = .pointer (some ⟨g14,1,none⟩));intro bb hbb;have n0:w1.cell? ⟨g14,1,none⟩ = some (.int .i64 ad):=(K14.out.ext (hdr.trans hx)).cell 1;have fo0:bb.eval (.tmp 199) = .pointer (some ⟨g14,1,none⟩):=by rw [hbb]; dsimp only; (try simp (discharger:=decide) only [Flow.eval_put_ne,Flow.X0y]); rw [Flow.Q0a (by simp only [Flow.size_put]; exact (by decide:199 < 381))]; exact q16
          clear hbb;intro K hK;unfold execOp;simp only [fo0];clear fo0;go_simp;exact hK _ _ (Ext.refl _) rfl
         case g18 =>
          as_aux_lemma =>
          intro v w1 hx (q17:v 17 = .int .i64 ad);intro bb hbb;have fo0:bb.eval (.tmp 200) = .int .i64 ad:=by rw [hbb]; dsimp only; (try simp (discharger:=decide) only [Flow.eval_put_ne,Flow.X0y]); rw [Flow.Q0a (by simp only [Flow.size_put]; exact (by decide:200 < 381))]; exact q17
          clear hbb;refine ⟨_,fun w=>?_,rfl⟩;unfold execOp;simp only [fo0];clear fo0;go_simp
         case g19 =>
          as_aux_lemma =>
          intro v w1 hx;intro bb hbb;have fo0:bb.eval (.tmp 16) = .pointer (some ⟨g16,0,none⟩):=by rw [hbb]; dsimp only; (try simp (discharger:=decide) only [Flow.eval_put_ne,Flow.X0y]); rfl
          clear hbb;refine ⟨_,fun w=>?_,rfl⟩;unfold execOp;simp only [fo0];clear fo0;go_simp
         case g20 =>
          as_aux_lemma =>
          intro v w1 hx (q19:v 19 = .pointer (some ⟨g16,1,none⟩));intro bb hbb;have n0:w1.cell? ⟨g16,1,none⟩ = some (.int .i64 bd):=(K16.out.ext (hdr.trans hx)).cell 1;have fo0:bb.eval (.tmp 202) = .pointer (some ⟨g16,1,none⟩):=by rw [hbb]; dsimp only; (try simp (discharger:=decide) only [Flow.eval_put_ne,Flow.X0y]); rw [Flow.Q0a (by simp only [Flow.size_put]; exact (by decide:202 < 381))]; exact q19
          clear hbb;intro K hK;unfold execOp;simp only [fo0];clear fo0;go_simp;exact hK _ _ (Ext.refl _) rfl
         case g21 =>
          as_aux_lemma =>
          intro v w1 hx (q18:v 18 = .int .i64 (16 * ad)) (q20:v 20 = .int .i64 bd);intro bb hbb;have fo0:bb.eval (.tmp 201) = .int .i64 (16 * ad):=by rw [hbb]; dsimp only; (try simp (discharger:=decide) only [Flow.eval_put_ne,Flow.X0y]); rw [Flow.Q0a (by simp only [Flow.size_put]; exact (by decide:201 < 381))]; exact q18
          have fo1:bb.eval (.tmp 203) = .int .i64 bd:=by rw [hbb]; dsimp only; (try simp (discharger:=decide) only [Flow.eval_put_ne,Flow.X0y]); rw [Flow.Q0a (by simp only [Flow.size_put]; exact (by decide:203 < 381))]; exact q20
          clear hbb;refine ⟨_,fun w=>?_,rfl⟩;unfold execOp;simp only [fo0,fo1];clear fo0 fo1;go_simp
         case g22 =>
          as_aux_lemma =>
          intro v w1 hx (q15:v 15 = .int .i64 (OA * an * bd + (16 - OA) * bn * ad)) (q21:v 21 = .int .i64 (16 * ad * bd));intro bb hbb;subst hbb;intro K hK;go_simp;refine Q0e (HLO1.out w1) ?_;rintro e w2 ⟨rfl,hx2⟩;exact ⟨_,rfl,hK _ _ hx2 rfl⟩
         case g23 =>
          as_aux_lemma =>
          intro v w1 hx;intro bb hbb;intro K2 hK2;have o1:bb.eval (.tmp 12) = .pointer (some ⟨g12,0,none⟩):=by rw [hbb]; dsimp only; (try simp (discharger:=decide) only [eval_put_ne]); rfl
          exact Q0n (.tmp 12) _ rfl Tryz.Q5e Tryz.Q1v o1 (K12.out.ext (hdr.trans hx)) rfl (hK2 _ _ (Ext.refl _) rfl)
         case g24 =>
          as_aux_lemma =>
          intro v w1 hx (q22:v 22 = .agg #[.int .i64 pn,.int .i64 pd]) (q23:v 23 = .agg #[.int .i64 pn,.int .i64 pd]);intro bb hbb;have fo0:bb.eval (.tmp 205) = .agg #[.int .i64 pn,.int .i64 pd]:=by rw [hbb]; dsimp only; (try simp (discharger:=decide) only [Flow.eval_put_ne,Flow.X0y]); rw [Flow.Q0a (by simp only [Flow.size_put]; exact (by decide:205 < 381))]; exact q22
          have fo1:bb.eval (.tmp 206) = .agg #[.int .i64 pn,.int .i64 pd]:=by rw [hbb]; dsimp only; (try simp (discharger:=decide) only [Flow.eval_put_ne,Flow.X0y]); rw [Flow.Q0a (by simp only [Flow.size_put]; exact (by decide:206 < 381))]; exact q23
          clear hbb;refine ⟨_,fun w=>?_,rfl⟩;unfold execOp;simp only [fo0,fo1];clear fo0 fo1;go_simp
         case g25 =>
          as_aux_lemma =>
          intro v w1 hx (q22:v 22 = .agg #[.int .i64 pn,.int .i64 pd]) (q24:v 24 = .bool false);intro bb hbb;have fo0:bb.eval (.tmp 207) = .bool false:=by rw [hbb]; dsimp only; (try simp (discharger:=decide) only [Flow.eval_put_ne,Flow.X0y]); rw [Flow.Q0a (by simp only [Flow.size_put]; exact (by decide:207 < 381))]; exact q24
          clear hbb;refine ⟨_,fun w=>?_,rfl⟩;unfold execOp;simp only [fo0];clear fo0;go_simp
         case g26 =>
          as_aux_lemma =>
          intro v w1 hx (q25:v 25 = .bool false);intro bb hbb;refine Flow.Q0g (d:=208) rfl rfl (by rw [hbb]; simp only [size_put]; exact (by decide:208 < 381)) (by rw [hbb]; dsimp only; (try simp (discharger:=decide) only [eval_put_ne]); rw [Q0a (by simp only [size_put]; exact (by decide:208 < 381))]; exact q25) ?_
          have fo0:bb.eval (.tmp 14) = .pointer (some ⟨g14,0,none⟩):=by rw [hbb]; dsimp only; (try simp (discharger:=decide) only [Flow.eval_put_ne,Flow.X0y]); rfl
          clear hbb;refine ⟨_,fun w=>?_,rfl⟩;unfold execOp;simp only [fo0];clear fo0;go_simp
         case g27 =>
          as_aux_lemma =>
          intro v w1 hx (q25:v 25 = .bool false) (q26:v 26 = .pointer (some ⟨g14,0,none⟩));intro bb hbb;have n0:w1.cell? ⟨g14,0,none⟩ = some (.int .i64 an):=(K14.out.ext (hdr.trans hx)).cell 0;refine Flow.Q0g (d:=208) rfl rfl (by rw [hbb]; simp only [size_put]; exact (by decide:208 < 381)) (by rw [hbb]; dsimp only; (try simp (discharger:=decide) only [eval_put_ne]); rw [Q0a (by simp only [size_put]; exact (by decide:208 < 381))]; exact q25) ?_
          have fo0:bb.eval (.tmp 209) = .pointer (some ⟨g14,0,none⟩):=by rw [hbb]; dsimp only; (try simp (discharger:=decide) only [Flow.eval_put_ne,Flow.X0y]); rw [Flow.Q0a (by simp only [Flow.size_put]; exact (by decide:209 < 381))]; exact q26
          clear hbb;intro K hK;unfold execOp;simp only [fo0];clear fo0;go_simp;exact hK _ _ (Ext.refl _) rfl
         case g28 =>
          as_aux_lemma =>
          intro v w1 hx (q25:v 25 = .bool false);intro bb hbb;refine Flow.Q0g (d:=208) rfl rfl (by rw [hbb]; simp only [size_put]; exact (by decide:208 < 381)) (by rw [hbb]; dsimp only; (try simp (discharger:=decide) only [eval_put_ne]); rw [Q0a (by simp only [size_put]; exact (by decide:208 < 381))]; exact q25) ?_
          have fo0:bb.eval (.tmp 16) = .pointer (some ⟨g16,0,none⟩):=by rw [hbb]; dsimp only; (try simp (discharger:=decide) only [Flow.eval_put_ne,Flow.X0y]); rfl
          clear hbb;refine ⟨_,fun w=>?_,rfl⟩;unfold execOp;simp only [fo0];clear fo0;go_simp
         case g29 =>
          as_aux_lemma =>
          intro v w1 hx (q25:v 25 = .bool false) (q28:v 28 = .pointer (some ⟨g16,1,none⟩));intro bb hbb;have n0:w1.cell? ⟨g16,1,none⟩ = some (.int .i64 bd):=(K16.out.ext (hdr.trans hx)).cell 1;refine Flow.Q0g (d:=208) rfl rfl (by rw [hbb]; simp only [size_put]; exact (by decide:208 < 381)) (by rw [hbb]; dsimp only; (try simp (discharger:=decide) only [eval_put_ne]); rw [Q0a (by simp only [size_put]; exact (by decide:208 < 381))]; exact q25) ?_
          have fo0:bb.eval (.tmp 211) = .pointer (some ⟨g16,1,none⟩):=by rw [hbb]; dsimp only; (try simp (discharger:=decide) only [Flow.eval_put_ne,Flow.X0y]); rw [Flow.Q0a (by simp only [Flow.size_put]; exact (by decide:211 < 381))]; exact q28
          clear hbb;intro K hK;unfold execOp;simp only [fo0];clear fo0;go_simp;exact hK _ _ (Ext.refl _) rfl
         case g30 =>
          as_aux_lemma =>
          intro v w1 hx (q25:v 25 = .bool false) (q27:v 27 = .int .i64 an) (q29:v 29 = .int .i64 bd);intro bb hbb;refine Flow.Q0g (d:=208) rfl rfl (by rw [hbb]; simp only [size_put]; exact (by decide:208 < 381)) (by rw [hbb]; dsimp only; (try simp (discharger:=decide) only [eval_put_ne]); rw [Q0a (by simp only [size_put]; exact (by decide:208 < 381))]; exact q25) ?_
          have fo0:bb.eval (.tmp 210) = .int .i64 an:=by rw [hbb]; dsimp only; (try simp (discharger:=decide) only [Flow.eval_put_ne,Flow.X0y]); rw [Flow.Q0a (by simp only [Flow.size_put]; exact (by decide:210 < 381))]; exact q27
          have fo1:bb.eval (.tmp 212) = .int .i64 bd:=by rw [hbb]; dsimp only; (try simp (discharger:=decide) only [Flow.eval_put_ne,Flow.X0y]); rw [Flow.Q0a (by simp only [Flow.size_put]; exact (by decide:212 < 381))]; exact q29
          clear hbb;refine ⟨_,fun w=>?_,rfl⟩;unfold execOp;simp only [fo0,fo1];clear fo0 fo1;go_simp
         case g31 =>
          as_aux_lemma =>
          intro v w1 hx (q25:v 25 = .bool false);intro bb hbb;refine Flow.Q0g (d:=208) rfl rfl (by rw [hbb]; simp only [size_put]; exact (by decide:208 < 381)) (by rw [hbb]; dsimp only; (try simp (discharger:=decide) only [eval_put_ne]); rw [Q0a (by simp only [size_put]; exact (by decide:208 < 381))]; exact q25) ?_
          have fo0:bb.eval (.tmp 16) = .pointer (some ⟨g16,0,none⟩):=by rw [hbb]; dsimp only; (try simp (discharger:=decide) only [Flow.eval_put_ne,Flow.X0y]); rfl
          clear hbb;refine ⟨_,fun w=>?_,rfl⟩;unfold execOp;simp only [fo0];clear fo0;go_simp
         case g32 =>
          as_aux_lemma =>
          intro v w1 hx (q25:v 25 = .bool false) (q31:v 31 = .pointer (some ⟨g16,0,none⟩));intro bb hbb;have n0:w1.cell? ⟨g16,0,none⟩ = some (.int .i64 bn):=(K16.out.ext (hdr.trans hx)).cell 0;refine Flow.Q0g (d:=208) rfl rfl (by rw [hbb]; simp only [size_put]; exact (by decide:208 < 381)) (by rw [hbb]; dsimp only; (try simp (discharger:=decide) only [eval_put_ne]); rw [Q0a (by simp only [size_put]; exact (by decide:208 < 381))]; exact q25) ?_
          have fo0:bb.eval (.tmp 214) = .pointer (some ⟨g16,0,none⟩):=by rw [hbb]; dsimp only; (try simp (discharger:=decide) only [Flow.eval_put_ne,Flow.X0y]); rw [Flow.Q0a (by simp only [Flow.size_put]; exact (by decide:214 < 381))]; exact q31
          clear hbb;intro K hK;unfold execOp;simp only [fo0];clear fo0;go_simp;exact hK _ _ (Ext.refl _) rfl
         case g33 =>
          as_aux_lemma =>
          intro v w1 hx (q25:v 25 = .bool false);intro bb hbb;refine Flow.Q0g (d:=208) rfl rfl (by rw [hbb]; simp only [size_put]; exact (by decide:208 < 381)) (by rw [hbb]; dsimp only; (try simp (discharger:=decide) only [eval_put_ne]); rw [Q0a (by simp only [size_put]; exact (by decide:208 < 381))]; exact q25) ?_
          have fo0:bb.eval (.tmp 14) = .pointer (some ⟨g14,0,none⟩):=by rw [hbb]; dsimp only; (try simp (discharger:=decide) only [Flow.eval_put_ne,Flow.X0y]); rfl
          clear hbb;refine ⟨_,fun w=>?_,rfl⟩;unfold execOp;simp only [fo0];clear fo0;go_simp
         case g34 =>
          as_aux_lemma =>
          intro v w1 hx (q25:v 25 = .bool false) (q33:v 33 = .pointer (some ⟨g14,1,none⟩));intro bb hbb;have n0:w1.cell? ⟨g14,1,none⟩ = some (.int .i64 ad):=(K14.out.ext (hdr.trans hx)).cell 1;refine Flow.Q0g (d:=208) rfl rfl (by rw [hbb]; simp only [size_put]; exact (by decide:208 < 381)) (by rw [hbb]; dsimp only; (try simp (discharger:=decide) only [eval_put_ne]); rw [Q0a (by simp only [size_put]; exact (by decide:208 < 381))]; exact q25) ?_
          have fo0:bb.eval (.tmp 216) = .pointer (some ⟨g14,1,none⟩):=by rw [hbb]; dsimp only; (try simp (discharger:=decide) only [Flow.eval_put_ne,Flow.X0y]); rw [Flow.Q0a (by simp only [Flow.size_put]; exact (by decide:216 < 381))]; exact q33
          clear hbb;intro K hK;unfold execOp;simp only [fo0];clear fo0;go_simp;exact hK _ _ (Ext.refl _) rfl
         case g35 =>
          as_aux_lemma =>
          intro v w1 hx (q25:v 25 = .bool false) (q32:v 32 = .int .i64 bn) (q34:v 34 = .int .i64 ad);intro bb hbb;refine Flow.Q0g (d:=208) rfl rfl (by rw [hbb]; simp only [size_put]; exact (by decide:208 < 381)) (by rw [hbb]; dsimp only; (try simp (discharger:=decide) only [eval_put_ne]); rw [Q0a (by simp only [size_put]; exact (by decide:208 < 381))]; exact q25) ?_
          have fo0:bb.eval (.tmp 215) = .int .i64 bn:=by rw [hbb]; dsimp only; (try simp (discharger:=decide) only [Flow.eval_put_ne,Flow.X0y]); rw [Flow.Q0a (by simp only [Flow.size_put]; exact (by decide:215 < 381))]; exact q32
          have fo1:bb.eval (.tmp 217) = .int .i64 ad:=by rw [hbb]; dsimp only; (try simp (discharger:=decide) only [Flow.eval_put_ne,Flow.X0y]); rw [Flow.Q0a (by simp only [Flow.size_put]; exact (by decide:217 < 381))]; exact q34
          clear hbb;refine ⟨_,fun w=>?_,rfl⟩;unfold execOp;simp only [fo0,fo1];clear fo0 fo1;go_simp
         case g36 =>
          as_aux_lemma =>
          intro v w1 hx (q25:v 25 = .bool false) (q30:v 30 = .int .i64 (an * bd)) (q35:v 35 = .int .i64 (bn * ad));intro bb hbb;refine Flow.Q0g (d:=208) rfl rfl (by rw [hbb]; simp only [size_put]; exact (by decide:208 < 381)) (by rw [hbb]; dsimp only; (try simp (discharger:=decide) only [eval_put_ne]); rw [Q0a (by simp only [size_put]; exact (by decide:208 < 381))]; exact q25) ?_
          have fo0:bb.eval (.tmp 213) = .int .i64 (an * bd):=by rw [hbb]; dsimp only; (try simp (discharger:=decide) only [Flow.eval_put_ne,Flow.X0y]); rw [Flow.Q0a (by simp only [Flow.size_put]; exact (by decide:213 < 381))]; exact q30
          have fo1:bb.eval (.tmp 218) = .int .i64 (bn * ad):=by rw [hbb]; dsimp only; (try simp (discharger:=decide) only [Flow.eval_put_ne,Flow.X0y]); rw [Flow.Q0a (by simp only [Flow.size_put]; exact (by decide:218 < 381))]; exact q35
          clear hbb;refine ⟨_,fun w=>?_,rfl⟩;unfold execOp;simp only [fo0,fo1];clear fo0 fo1;go_simp
         case g37 =>
          as_aux_lemma =>
          intro v w1 hx (q25:v 25 = .bool false);intro bb hbb;refine Flow.Q0g (d:=208) rfl rfl (by rw [hbb]; simp only [size_put]; exact (by decide:208 < 381)) (by rw [hbb]; dsimp only; (try simp (discharger:=decide) only [eval_put_ne]); rw [Q0a (by simp only [size_put]; exact (by decide:208 < 381))]; exact q25) ?_
          have fo0:bb.eval (.tmp 14) = .pointer (some ⟨g14,0,none⟩):=by rw [hbb]; dsimp only; (try simp (discharger:=decide) only [Flow.eval_put_ne,Flow.X0y]); rfl
          clear hbb;refine ⟨_,fun w=>?_,rfl⟩;unfold execOp;simp only [fo0];clear fo0;go_simp
         case g38 =>
          as_aux_lemma =>
          intro v w1 hx (q25:v 25 = .bool false) (q37:v 37 = .pointer (some ⟨g14,1,none⟩));intro bb hbb;have n0:w1.cell? ⟨g14,1,none⟩ = some (.int .i64 ad):=(K14.out.ext (hdr.trans hx)).cell 1;refine Flow.Q0g (d:=208) rfl rfl (by rw [hbb]; simp only [size_put]; exact (by decide:208 < 381)) (by rw [hbb]; dsimp only; (try simp (discharger:=decide) only [eval_put_ne]); rw [Q0a (by simp only [size_put]; exact (by decide:208 < 381))]; exact q25) ?_
          have fo0:bb.eval (.tmp 220) = .pointer (some ⟨g14,1,none⟩):=by rw [hbb]; dsimp only; (try simp (discharger:=decide) only [Flow.eval_put_ne,Flow.X0y]); rw [Flow.Q0a (by simp only [Flow.size_put]; exact (by decide:220 < 381))]; exact q37
          clear hbb;intro K hK;unfold execOp;simp only [fo0];clear fo0;go_simp;exact hK _ _ (Ext.refl _) rfl
         case g39 =>
          as_aux_lemma =>
          intro v w1 hx (q25:v 25 = .bool false);intro bb hbb;refine Flow.Q0g (d:=208) rfl rfl (by rw [hbb]; simp only [size_put]; exact (by decide:208 < 381)) (by rw [hbb]; dsimp only; (try simp (discharger:=decide) only [eval_put_ne]); rw [Q0a (by simp only [size_put]; exact (by decide:208 < 381))]; exact q25) ?_
          have fo0:bb.eval (.tmp 16) = .pointer (some ⟨g16,0,none⟩):=by rw [hbb]; dsimp only; (try simp (discharger:=decide) only [Flow.eval_put_ne,Flow.X0y]); rfl
          clear hbb;refine ⟨_,fun w=>?_,rfl⟩;unfold execOp;simp only [fo0];clear fo0;go_simp
         case g40 =>
          as_aux_lemma =>
          intro v w1 hx (q25:v 25 = .bool false) (q39:v 39 = .pointer (some ⟨g16,1,none⟩));intro bb hbb;have n0:w1.cell? ⟨g16,1,none⟩ = some (.int .i64 bd):=(K16.out.ext (hdr.trans hx)).cell 1;refine Flow.Q0g (d:=208) rfl rfl (by rw [hbb]; simp only [size_put]; exact (by decide:208 < 381)) (by rw [hbb]; dsimp only; (try simp (discharger:=decide) only [eval_put_ne]); rw [Q0a (by simp only [size_put]; exact (by decide:208 < 381))]; exact q25) ?_
          have fo0:bb.eval (.tmp 222) = .pointer (some ⟨g16,1,none⟩):=by rw [hbb]; dsimp only; (try simp (discharger:=decide) only [Flow.eval_put_ne,Flow.X0y]); rw [Flow.Q0a (by simp only [Flow.size_put]; exact (by decide:222 < 381))]; exact q39
          clear hbb;intro K hK;unfold execOp;simp only [fo0];clear fo0;go_simp;exact hK _ _ (Ext.refl _) rfl
         case g41 =>
          as_aux_lemma =>
          intro v w1 hx (q25:v 25 = .bool false) (q38:v 38 = .int .i64 ad) (q40:v 40 = .int .i64 bd);intro bb hbb;refine Flow.Q0g (d:=208) rfl rfl (by rw [hbb]; simp only [size_put]; exact (by decide:208 < 381)) (by rw [hbb]; dsimp only; (try simp (discharger:=decide) only [eval_put_ne]); rw [Q0a (by simp only [size_put]; exact (by decide:208 < 381))]; exact q25) ?_
          have fo0:bb.eval (.tmp 221) = .int .i64 ad:=by rw [hbb]; dsimp only; (try simp (discharger:=decide) only [Flow.eval_put_ne,Flow.X0y]); rw [Flow.Q0a (by simp only [Flow.size_put]; exact (by decide:221 < 381))]; exact q38
          have fo1:bb.eval (.tmp 223) = .int .i64 bd:=by rw [hbb]; dsimp only; (try simp (discharger:=decide) only [Flow.eval_put_ne,Flow.X0y]); rw [Flow.Q0a (by simp only [Flow.size_put]; exact (by decide:223 < 381))]; exact q40
          clear hbb;refine ⟨_,fun w=>?_,rfl⟩;unfold execOp;simp only [fo0,fo1];clear fo0 fo1;go_simp
         case g42 =>
          as_aux_lemma =>
          intro v w1 hx (q25:v 25 = .bool false) (q36:v 36 = .int .i64 (an * bd - bn * ad)) (q41:v 41 = .int .i64 (ad * bd));intro bb hbb;refine Flow.Q0g (d:=208) rfl rfl (by rw [hbb]; simp only [size_put]; exact (by decide:208 < 381)) (by rw [hbb]; dsimp only; (try simp (discharger:=decide) only [eval_put_ne]); rw [Q0a (by simp only [size_put]; exact (by decide:208 < 381))]; exact q25) ?_
          subst hbb;intro K hK;go_simp;refine Q0e (HLO2.out w1) ?_;rintro e w2 ⟨rfl,hx2⟩;exact ⟨_,rfl,hK _ _ hx2 rfl⟩
         case g43 =>
          as_aux_lemma =>
          intro v w1 hx (q25:v 25 = .bool false);intro bb hbb;refine Flow.Q0g (d:=208) rfl rfl (by rw [hbb]; simp only [size_put]; exact (by decide:208 < 381)) (by rw [hbb]; dsimp only; (try simp (discharger:=decide) only [eval_put_ne]); rw [Q0a (by simp only [size_put]; exact (by decide:208 < 381))]; exact q25) ?_
          intro K2 hK2;have o1:bb.eval (.tmp 18) = .pointer (some ⟨g18,0,none⟩):=by rw [hbb]; dsimp only; (try simp (discharger:=decide) only [eval_put_ne]); rfl
          exact Q0n (.tmp 18) _ rfl Tryz.Q5e Tryz.Q1v o1 (K18.out.ext (hdr.trans hx)) rfl (hK2 _ _ (Ext.refl _) rfl)
         case g44 =>
          as_aux_lemma =>
          intro v w1 hx (q25:v 25 = .bool false) (q42:v 42 = .agg #[.int .i64 jn,.int .i64 jd]) (q43:v 43 = .agg #[.int .i64 jn,.int .i64 jd]);intro bb hbb;refine Flow.Q0g (d:=208) rfl rfl (by rw [hbb]; simp only [size_put]; exact (by decide:208 < 381)) (by rw [hbb]; dsimp only; (try simp (discharger:=decide) only [eval_put_ne]); rw [Q0a (by simp only [size_put]; exact (by decide:208 < 381))]; exact q25) ?_
          have fo0:bb.eval (.tmp 225) = .agg #[.int .i64 jn,.int .i64 jd]:=by rw [hbb]; dsimp only; (try simp (discharger:=decide) only [Flow.eval_put_ne,Flow.X0y]); rw [Flow.Q0a (by simp only [Flow.size_put]; exact (by decide:225 < 381))]; exact q42
          have fo1:bb.eval (.tmp 226) = .agg #[.int .i64 jn,.int .i64 jd]:=by rw [hbb]; dsimp only; (try simp (discharger:=decide) only [Flow.eval_put_ne,Flow.X0y]); rw [Flow.Q0a (by simp only [Flow.size_put]; exact (by decide:226 < 381))]; exact q43
          clear hbb;refine ⟨_,fun w=>?_,rfl⟩;unfold execOp;simp only [fo0,fo1];clear fo0 fo1;go_simp
         case g45 =>
          as_aux_lemma =>
          intro v w1 hx (q25:v 25 = .bool false) (q44:v 44 = .bool false);intro bb hbb;have fo0:bb.eval (.tmp 208) = .bool false:=by rw [hbb]; dsimp only; (try simp (discharger:=decide) only [Flow.eval_put_ne,Flow.X0y]); rw [Flow.Q0a (by simp only [Flow.size_put]; exact (by decide:208 < 381))]; exact q25
          have fo1:bb.eval (.tmp 227) = .bool false:=by rw [hbb]; dsimp only; (try simp (discharger:=decide) only [Flow.eval_put_ne,Flow.X0y]); rw [Flow.Q0a (by simp only [Flow.size_put]; exact (by decide:227 < 381))]; exact q44
          clear hbb;refine ⟨_,fun w=>?_,rfl⟩;unfold execOp;simp only [fo0,fo1];clear fo0 fo1;go_simp
         case post =>
          intro v w1 hx (q0:v 0 = .int .i64 OA) (q1:v 1 = .pointer (some ⟨g14,0,none⟩)) (q2:v 2 = .int .i64 an) (q3:v 3 = .int .i64 (OA * an)) (q4:v 4 = .pointer (some ⟨g16,1,none⟩)) (q5:v 5 = .int .i64 bd) (q6:v 6 = .int .i64 (OA * an * bd)) (q7:v 7 = .int .i64 OA) (q8:v 8 = .int .i64 (16 - OA)) (q9:v 9 = .pointer (some ⟨g16,0,none⟩)) (q10:v 10 = .int .i64 bn) (q11:v 11 = .int .i64 ((16 - OA) * bn)) (q12:v 12 = .pointer (some ⟨g14,1,none⟩)) (q13:v 13 = .int .i64 ad) (q14:v 14 = .int .i64 ((16 - OA) * bn * ad)) (q15:v 15 = .int .i64 (OA * an * bd + (16 - OA) * bn * ad)) (q16:v 16 = .pointer (some ⟨g14,1,none⟩)) (q17:v 17 = .int .i64 ad) (q18:v 18 = .int .i64 (16 * ad)) (q19:v 19 = .pointer (some ⟨g16,1,none⟩)) (q20:v 20 = .int .i64 bd) (q21:v 21 = .int .i64 (16 * ad * bd)) (q22:v 22 = .agg #[.int .i64 pn,.int .i64 pd]) (q23:v 23 = .agg #[.int .i64 pn,.int .i64 pd]) (q24:v 24 = .bool false) (q25:v 25 = .bool false) (q26:v 26 = .pointer (some ⟨g14,0,none⟩)) (q27:v 27 = .int .i64 an) (q28:v 28 = .pointer (some ⟨g16,1,none⟩)) (q29:v 29 = .int .i64 bd) (q30:v 30 = .int .i64 (an * bd)) (q31:v 31 = .pointer (some ⟨g16,0,none⟩)) (q32:v 32 = .int .i64 bn) (q33:v 33 = .pointer (some ⟨g14,1,none⟩)) (q34:v 34 = .int .i64 ad) (q35:v 35 = .int .i64 (bn * ad)) (q36:v 36 = .int .i64 (an * bd - bn * ad)) (q37:v 37 = .pointer (some ⟨g14,1,none⟩)) (q38:v 38 = .int .i64 ad) (q39:v 39 = .pointer (some ⟨g16,1,none⟩)) (q40:v 40 = .int .i64 bd) (q41:v 41 = .int .i64 (ad * bd)) (q42:v 42 = .agg #[.int .i64 jn,.int .i64 jd]) (q43:v 43 = .agg #[.int .i64 jn,.int .i64 jd]) (q44:v 44 = .bool false) (q45:v 45 = .bool false);simp only [Flow.All,Flow.acts,Act.put];go_simp;have hxx:=hdr.trans hx;replace HX:=Lib.hid (HX.out.trans hxx);replace HTAB:=Lib.hid (HTAB.out.ext hxx);replace K0:=Lib.hid (K0.out.ext hxx);replace HT:=Lib.hid (HT.out.ext hxx);replace K12:=Lib.hid (K12.out.ext hxx);replace K14:=Lib.hid (K14.out.ext hxx);replace K16:=Lib.hid (K16.out.ext hxx);replace K18:=Lib.hid (K18.out.ext hxx);replace K20:=Lib.hid (K20.out.ext hxx);replace K22:=Lib.hid (K22.out.ext hxx);clear hxx hx hdr q0 q1 q2 q3 q4 q5 q6 q7 q8 q9 q10 q11 q12 q13 q14 q15 q16 q17 q18 q19 q20 q21 q22 q23 q24 q25 q26 q27 q28 q29 q30 q31 q32 q33 q34 q35 q36 q37 q38 q39 q40 q41 q42 q43 q44 q45;obtain ⟨w20,rfl⟩:∃ X,X = w1:=⟨_,rfl⟩;clear y1 y2 y3 y4 y5 y6 y7 y8 y9 y10 y11 y12 HLO1 HLO2;go_upto_if 228 with fail
          go_step
          go_step
          go_step
          go_step
          exact J2j w w20 t _ _ _ _ _ _ at_ sz _ _ _ OA pn pd an ad bn bd jn jd un ud HE.out HF.out HSZ.out HK.out HSS.out HOA.out HLF.out HP.out HJ.out HT.out K0.out K12.out K18.out (HW0.out.trans HX.out) _ _ _ _ _ _ _ _ _ _ _ _ _ _ _ _ _ _ _ _ _ _ _ _ _ _ _ _ _ _ _ _ _ _ _ _ _ _ _ _ _ _ _ _ _ _ _ _ _ _ _ _ _ _ _ _ _ _ _ _ _ _ _ _ _ _ _ _ _ _ _ _ _ _ _ _ _ _ _ _ _ _ _ _ _ _ _ _ _ _ _ _ _ _ _ _ _ _ _ _ _ _ _ _ _ _ _ _ _ _ _ _ _ _ _ _ _ _ _ _ _ _ _ _ _ _ _ _ _ _ _ _ _ _ _ _ _ _ _ _ _ _ _ _ _ _ _ _ _ _ _ _ _ _ _ _ _ _ _ _ _ _ _ _ _ _ _ _ _ _ _ _ _ _ _ _ _ _ _ _ _ _ _ _ _ _ _ _ _ _ _ _ _ _ _ _ _ _ _ _ _ _ _ _ _ _ _ _ _ _ _ _ _ _ _ _ _ _ _ _ _ _ _ _ _ _ _ _ _ _ _ _ _ _ _ _ _ _ _ _ _ _ _ _ _ _ _ _ _ _ _ _ _ _ _ _ _ _ _ _ _ _ _ _ _ _ _ _ _ _ _ _ _ _ _ _ _ _ _ _ _ _ _ _ _ _ _ _ _ _ _ _ _ _ _ _ _ _ _ _ _ _ _ _ _ _ _ _ _ _ _ _ _ _ _ _ _ _ _ _ _ _ _ _ _ _ _ _ _ _ _ _ _ _ _ _ _ _ _ _ _ _ _ _ _ _ _ _ _ _ _ _ _ _ _ _ _ _ _ _ _ _ _ _ _ _ _ _ _ _ _ _ _ _ _ _
end Go.Proofs
namespace Go.Proofs.YtmaejccjimkbiaaGreatDoor
open Go.ChangeShapes Go.WideShapes Go.ChangeAt Go.RowKit Go.Tw
set_option maxRecDepth 100000 in
theorem Z7t (os:Os) (started:os.Started) (H:Type) (enc:TypeId × Value → H) :
    ReturnsInHanded {} Tryz.checked os 6 .any (fun w args=>(Rows.faultLinearSpec.pre enc Tryz.prog Tryz.f6 Rows.faultLinearRow.domain false w args ∧ laidMetH Tryz.prog Y5l w) ∧ sizedMet enc Tryz.prog Tryz.f6 (OpenSpec.ofChange Rows.faultLinearSpec) false w args)
     (Rows.faultLinearSpec.post enc Tryz.prog Tryz.f6 false true false false):=by
 refine returnsInHanded_of_change_and (C:=Tryz.checked) (X:=fun w _=>laidMetH Tryz.prog Y5l w) (fun _ _ _ hh h=>h.of_heap hh) own started (by kernel_rfl) Tryz.func6
  (ChangeSpec.witness_shaped (enc:=enc) (C:=Tryz.checked) (os:=os) (X:=fun w _=>laidMetH Tryz.prog Y5l w) false (World.laidAll Tryz.prog os Y5l) #[.agg #[.slice none 0 0,.slice none 0 0,.slice none 0 0],.int .u8 0] 8 (World.laidAll_os _ _ _)
   (World.shaped_of_ZipB (by kernel_rfl) (by kernel_rfl)) (by kernel_rfl) (by kernel_rfl) (by kernel_rfl)
   (by rw [MakeChecks.laidMetH_plain _ _ _ (by kernel_rfl)]; exact laidMet_laidAll _ (by kernel_rfl) (by kernel_rfl))) ?_
 intro W base args ds gs before hval0 hW hc hsz0 hL _;have hval:∀ (j:Nat) t v,Tryz.f6.params[j]? = some t → args[j]? = some v → Value.okWide Tryz.prog W .any base t v:=hval0;have hsz:(DataW.weightsEach Tryz.prog (Tryz.f6.params.toList ++ Rows.faultLinearSpec.plain.varTypes Tryz.prog) (ds ++ gs)).all (· ≤ reachBytes) = true:=hsz0;have hW':=hW;obtain ⟨p,q,hA0,hV,rfl,hfz,hnd⟩:=hW;have hA:DataW.TrodAll enc Tryz.prog W 0 (fun _=>true) true Tryz.f6.params.toList args.toList ds p:=hA0;rw [Tryz.params6] at hA hval hsz;obtain ⟨v0,vs0,d0,ds0,p0,q0,hargs,rfl,rfl,h0,r0⟩:=trodAll_cons hA;obtain ⟨v1,vs1,d1,ds1,p1,q1,rfl,rfl,rfl,h1,r1⟩:=trodAll_cons r0;obtain ⟨rfl,rfl,rfl⟩:=trodAll_nil r1;obtain rfl:args = #[v0,v1]:=by cases args; simp_all
 obtain ⟨rfl,rfl⟩:=trodVars_none hV;have hfit:∀ x ∈ DataW.weightsEach Tryz.prog [26,5] [d0,d1],x ≤ 140737488351232:=fun x hx=>by
  have:=List.all_eq_true.1 (show (DataW.weightsEach Tryz.prog [26,5] [d0,d1]).all (· ≤ reachBytes) = true from hsz) x hx
  exact Nat.le_trans (of_decide_eq_true this) (by decide)
 obtain ⟨f0,g0⟩:=Q3y hfit;obtain ⟨f1,g1⟩:=Q3y g0;have k0:=h0;have lt0:∀ x ∈ p0,x.block < W.heap.size:=by obtain ⟨m,hm⟩:=k0; exact DataW.trod_lt m _ _ _ hm
 obtain ⟨t0,HI0⟩:=Y0o (hval 0 26 v0 rfl rfl) h0 f0;have k1:=h1;have lt1:∀ x ∈ p1,x.block < W.heap.size:=by obtain ⟨m,hm⟩:=k1; exact DataW.trod_lt m _ _ _ hm
 obtain ⟨z1,rfl,rfl,rfl,wz1⟩:=open_int Tryz.underlying5 (hval 1 5 v1 rfl rfl) h1;obtain ⟨nu1,hu1,rfl⟩:=J2t wz1;clear hA0 hval0 hsz0;refine (Z8s _ _ _ _ hu1 HI0 (Y2g hL)).mono fun e W' ⟨he,bel⟩=>?_;subst he;exact ⟨_,rfl,_,_,_,[],_,[],hW',trodAll_mk1 (shut_bool Tryz.underlying4 _),(trodAll_cons_mk (Below.trod laidOut (by kernel_rfl) (of_decide_eq_true (by kernel_rfl)) k0 bel lt0) (trodAll_cons_mk (shut_int Tryz.underlying5 wz1) trodAll_mk0)),rfl,bel.frame _,fun h=>by cases h⟩
theorem Z8a:Rows.FaultLinearSaid :=
 OpenClaim.holds_of_wide 6 Tryz.f6 rfl rfl rfl rfl rfl rfl rfl ⟨rfl,rfl,rfl,rfl,rfl⟩ rfl rfl rfl rfl rfl (by kernel_rfl) Tryz.func6 (by kernel_rfl)
  (of_decide_eq_true (by kernel_rfl)) (by unfold Func.isWrapper; first | (rw [if_pos (by decide +kernel)]; kernel_rfl) | (rw [if_neg (by decide +kernel)]; exact ⟨rfl,rfl⟩))
  (fun os started H enc _=>Z7t os started H enc)
theorem faultLinear_card:Rows.FaultLinearCardSaid :=
 Claim7.holds_tied_plain_at .later [] [.data,.data,.data] true _ false Z8a (fun _ h=>by cases h) (by kernel_rfl) (fun _ h=>by cases h) faultLinear_row_tie rfl ⟨rfl,rfl⟩ (by kernel_rfl) rfl
  (fun f fn hf hfn=>by
   obtain rfl:f = 6:=Option.some.inj ((show Tryz.prog.funcNamed Rows.faultLinearRow.func = some 6 by kernel_rfl).symm.trans hf) |>.symm
   obtain rfl:fn = Tryz.f6:=(Option.some.inj (Tryz.func6.symm.trans hfn)).symm;exact ⟨by kernel_rfl,fun j t ht=>by
    rw [Tryz.params6] at ht;have hm:t ∈ [26,5]:=by simpa using Array.mem_of_getElem? ht
    have hall:([26,5].all fun u=>!Tryz.prog.wantsStandIn u) = true:=by kernel_rfl
    exact (show Tryz.prog.wantsStandIn t = false by simpa using List.all_eq_true.1 hall t hm)⟩)
  (by kernel_rfl)
#print axioms faultLinear_card
end Go.Proofs.YtmaejccjimkbiaaGreatDoor
