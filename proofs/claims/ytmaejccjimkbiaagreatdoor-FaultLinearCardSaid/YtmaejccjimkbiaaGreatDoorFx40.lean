/- Contracts of the reference: IsName, CheckName, HasWord, checkGate. Contracts of the reference: HasWord, checkGate. -/
import Derived.Test.YtmaejccjimkbiaaGreatDoorFx06
import Derived.Test.YtmaejccjimkbiaaGreatDoorFx05
import Derived.Test.YtmaejccjimkbiaaGreatDoorFx13
set_option linter.unusedVariables false
set_option linter.unusedSimpArgs false
set_option linter.constructorNameAsVariable false
namespace Go.Proofs
open Go.RowKit Go.Tw Go.Flow
set_option maxHeartbeats 800000 in
theorem Y5a (w:World) (s:ByteArray) (hs:Short s) :
    Calls Tryz.prog 138 #[.string s] w fun e w'=>e = .returned (.bool (nameB s)) ∧ w = w':=by
 unfold Short at hs;have hsz:s.data.toList.length = s.size:=by simp
 by_cases hz:s.size = 0
 · have HR:Hid (nameB s = false):=by
    rw [Q2l];have:s.data.toList = []:=List.length_eq_zero_iff.1 (by omega)
    rw [this]; exact rfl
   have hz':((s.size:Int) == 0) = true:=by rw [beq_iff_eq]; omega
   clear hz hsz;go_enter Tryz.func138,Tryz.ntmps138;go_wp2;go_ret;exact ⟨Q1q HR.out.symm,rfl⟩
 · have hz':((s.size:Int) == 0) = false:=by rw [beq_eq_false_iff_ne]; omega
   by_cases hb:24 < s.size
   · have HR:Hid (nameB s = false):=by
      rw [Q2l,show decide (s.data.toList.length ≤ 24) = false from decide_eq_false (by omega)]
      rw [Bool.and_false,Bool.and_false]; exact rfl
     have hb':(24:Int) < (s.size:Int):=by omega
     clear hz hsz;go_enter Tryz.func138,Tryz.ntmps138;go_wp2;go_ret;exact ⟨Q1q HR.out.symm,rfl⟩
   · have HR:Hid (nameB s = Q1x true s.data.toList):=by
      rw [Q2l,show decide (s.data.toList.length ≤ 24) = true from decide_eq_true (by omega),show decide (s.data.toList ≠ []) = true from decide_eq_true (fun e=>hz (by rw [← hsz,e]; rfl))]
      rw [Bool.and_true,Bool.and_true]; exact rfl
     have HSZ:=Lib.hid hsz;have hb':¬ (24:Int) < (s.size:Int):=by omega
     clear hz hsz;go_enter Tryz.func138,Tryz.ntmps138;go_wp2
     go_loop [3] (fun i=>∃ k:Nat,k ≤ s.size ∧ i = .int .i64 k ∧ Q1x (k == 0) (s.data.toList.drop k) = Q1x true s.data.toList) (fun i=>s.size - (intOf i).toNat)
     case atStart=>exact ⟨0,Nat.zero_le _,rfl,rfl⟩
     case round =>
      obtain ⟨k,hk,rfl,hc⟩:=hrel;have HC:=Lib.hid hc; clear hc
      by_cases hlt:k < s.size
      · have HB:=Lib.hid (Y3z s k hlt)
        have HL:=Lib.hid (X7j (s[k]'hlt));have HO:=Lib.hid (X9w (s[k]'hlt));have hcl:(65 ≤ (s[k]'hlt).toNat ∧ (s[k]'hlt).toNat ≤ 90) ∨ (97 ≤ (s[k]'hlt).toNat ∧ (s[k]'hlt).toNat ≤ 122) ∨ (48 ≤ (s[k]'hlt).toNat ∧ (s[k]'hlt).toNat ≤ 57) ∨ (s[k]'hlt).toNat = 95 ∨ (s[k]'hlt).toNat < 48 ∨ (58 ≤ (s[k]'hlt).toNat ∧ (s[k]'hlt).toNat < 65) ∨ (91 ≤ (s[k]'hlt).toNat ∧ (s[k]'hlt).toNat < 97 ∧ (s[k]'hlt).toNat ≠ 95) ∨ 123 ≤ (s[k]'hlt).toNat:=by omega
        have hdef:((s[k]'hlt).toNat:Int) = 95 ∨ ¬ ((s[k]'hlt).toNat:Int) = 95:=by omega
        have go (b1 b2:Bool) (hl:Q2q (s[k]'hlt) = b1) (ho:Q4k (s[k]'hlt) = b2):Q1x (k == 0) (s.data.toList.drop k) = ((b1 || (!(k == 0) && b2)) && Q1x false (s.data.toList.drop (k + 1))):=by
         rw [HB.out,Q1x,hl,ho]
        have GO:=Lib.hid go;clear go
        rcases hcl with hcl | hcl | hcl | hcl | hcl | hcl | hcl | hcl
        case inl | inr.inl =>
         all_goals
          have HX:Hid (Q2q (s[k]'hlt) = true):=by
           exact (by rw [HL.out]; simp; omega:Q2q (s[k]'hlt) = true)
          have f0:decide (97 ≤ ((s[k]'hlt).toNat:Int)) = decide (97 ≤ (s[k]'hlt).toNat):=by rw [decide_eq_decide]; omega
          have f1:(65:Int) ≤ ((s[k]'hlt).toNat:Int):=by omega
          have f2:((s[k]'hlt).toNat:Int) ≤ 122:=by omega
          first | (have f3:((s[k]'hlt).toNat:Int) ≤ 90:=by omega) | (have f3:(97:Int) ≤ ((s[k]'hlt).toNat:Int):=by omega)
          first | (have f4:¬ (97:Int) ≤ ((s[k]'hlt).toNat:Int):=by omega) | skip
          clear hcl hdef f0;go_wp2;go_round
          case rel=>exact ⟨k + 1,by omega,by go_num,by rw [← HC.out,GO.out _ _ HX.out rfl,Bool.true_or,Bool.true_and]; rfl⟩
          case measure=>simp [intOf]; omega
        case inr.inr.inl | inr.inr.inr.inl =>
         all_goals
          have HX:Hid (Q2q (s[k]'hlt) = false ∧ Q4k (s[k]'hlt) = true):=by
           exact (by rw [HL.out,HO.out]; simp; omega:Q2q (s[k]'hlt) = false ∧ Q4k (s[k]'hlt) = true)
          have f1:¬ (97:Int) ≤ ((s[k]'hlt).toNat:Int):=by omega
          first | (have f2:¬ (65:Int) ≤ ((s[k]'hlt).toNat:Int):=by omega) | (have f2:(65:Int) ≤ ((s[k]'hlt).toNat:Int):=by omega)
          have f3:(¬ ((s[k]'hlt).toNat:Int) ≤ 90) ∨ ((s[k]'hlt).toNat:Int) ≤ 90:=by omega
          first | (have f4:¬ ((s[k]'hlt).toNat:Int) ≤ 90:=by omega) | skip
          first | (have f5:(((s[k]'hlt).toNat:Int) != 95) = false:=by rw [bne_eq_false_iff_eq]; omega) | (have f5:(((s[k]'hlt).toNat:Int) != 95) = true:=by rw [bne_iff_ne]; omega)
          first | (have f6:¬ ((s[k]'hlt).toNat:Int) < 48:=by omega) | skip
          first | (have f7:¬ (57:Int) < ((s[k]'hlt).toNat:Int):=by omega) | skip
          clear hcl hdef f3
          by_cases h0:k = 0
          · subst h0
            go_wp2;go_ret;exact ⟨Q1q (by rw [HR.out,← HC.out,GO.out _ _ HX.out.1 HX.out.2]; rfl),rfl⟩
          · have h0':(((k:Nat):Int) == 0) = false:=by rw [beq_eq_false_iff_ne]; omega
            have HK:Hid ((k == 0) = false):=by exact (by rw [beq_eq_false_iff_ne]; omega:(k == 0) = false)
            clear h0;go_wp2;go_round
            case rel=>exact ⟨k + 1,by omega,by go_num,by rw [← HC.out,GO.out _ _ HX.out.1 HX.out.2,HK.out]; rfl⟩
            case measure=>simp [intOf]; omega
        all_goals
         have HX:Hid (Q2q (s[k]'hlt) = false ∧ Q4k (s[k]'hlt) = false):=by
          exact (by rw [HL.out,HO.out]; simp; omega:Q2q (s[k]'hlt) = false ∧ Q4k (s[k]'hlt) = false)
         first | (have f1:¬ (97:Int) ≤ ((s[k]'hlt).toNat:Int):=by omega) | (have f1:(97:Int) ≤ ((s[k]'hlt).toNat:Int):=by omega)
         first | (have f2:¬ (65:Int) ≤ ((s[k]'hlt).toNat:Int):=by omega) | (have f2:(65:Int) ≤ ((s[k]'hlt).toNat:Int):=by omega)
         first | (have f3:¬ ((s[k]'hlt).toNat:Int) ≤ 122:=by omega) | skip
         first | (have f4:¬ ((s[k]'hlt).toNat:Int) ≤ 90:=by omega) | skip
         have f5:(((s[k]'hlt).toNat:Int) != 95) = true:=by rw [bne_iff_ne]; omega
         first | (have f6:((s[k]'hlt).toNat:Int) < 48:=by omega) | (have f6:¬ ((s[k]'hlt).toNat:Int) < 48:=by omega)
         first | (have f7:(57:Int) < ((s[k]'hlt).toNat:Int):=by omega) | skip
         clear hcl hdef
         by_cases h0:k = 0
         · subst h0
           go_wp2;go_ret;exact ⟨Q1q (by rw [HR.out,← HC.out,GO.out _ _ HX.out.1 HX.out.2]; rfl),rfl⟩
         · have h0':(((k:Nat):Int) == 0) = false:=by rw [beq_eq_false_iff_ne]; omega
           clear h0;go_wp2;go_ret;exact ⟨Q1q (by rw [HR.out,← HC.out,GO.out _ _ HX.out.1 HX.out.2]; simp),rfl⟩
      · go_wp2
        go_ret;exact ⟨Q1q (by rw [HR.out,← HC.out,List.drop_eq_nil_of_le (by rw [HSZ.out]; omega)]; rfl),rfl⟩
theorem X8i (w:World) (s:ByteArray) (hs:Short s) :
    Calls Tryz.prog 91 #[.string s] w fun e w'=>e = .returned (.int .i64 (Q2z s)) ∧ w = w':=by
 have HI:=Lib.hid (Y5a w s hs);unfold Q2z;obtain ⟨b,hb⟩:∃ b,nameB s = b:=⟨_,rfl⟩;rw [hb] at HI ⊢;clear hb hs;cases b with
 | true =>
   go_enter Tryz.func91,Tryz.ntmps91;go_wp2_with (go_at_call 138; refine HI.out.mono ?_; rintro e w' ⟨rfl,rfl⟩);go_ret;exact ⟨rfl,rfl⟩
 | false =>
   go_enter Tryz.func91,Tryz.ntmps91;go_wp2_with (go_at_call 138; refine HI.out.mono ?_; rintro e w' ⟨rfl,rfl⟩);go_ret;exact ⟨rfl,rfl⟩
end Go.Proofs
namespace Go.Tw
open Go.RowKit
def sx (l:List ByteArray) (k:Nat):ByteArray:=l.getD k ⟨#[]⟩
theorem Z4t {l:List ByteArray} {k:Nat} (h:k < l.length):sx l k = l[k]:=by simp [sx,h]
theorem X5h.opened {w:World} {v:Value} {l:List ByteArray} (h:X5h w v l) :
    ∃ A cap,v = .slice A l.length cap ∧ l.length ≤ 17592186043904 ∧ l.length ≤ cap ∧ ∀ k,k < l.length → ∃ b off,A = some ⟨b,off,none⟩ ∧ w.cell? ⟨b,off + k,none⟩ = some (.string (sx l k)):=by
 obtain ⟨c,⟨A,cap,hv,hn,hcap,hc⟩,h2⟩:=h;refine ⟨A,cap,hv,hn,hcap,fun k hk=>?_⟩;obtain ⟨b,off,hA,h⟩:=hc k (by omega)
 refine ⟨b,off,hA,?_⟩;have:=h2 k hk;simp only [Nat.mul_one,Nat.add_zero] at this;rw [h,this,Z4t hk]
def Z3j (l:List ByteArray) (s:ByteArray):Bool:=l.any fun x=>x == s
theorem X9x (x:ByteArray) (l:List ByteArray) (s:ByteArray):Z3j (x :: l) s = (x == s || Z3j l s):=rfl
theorem Z4a {l:List ByteArray} {k:Nat} (h:k < l.length):l.drop k = sx l k :: l.drop (k + 1):=by rw [List.drop_eq_getElem_cons h,Z4t h]
end Go.Tw
namespace Go.Proofs
open Go.RowKit Go.Tw Go.Flow
set_option maxHeartbeats 400000 in
theorem Y1v (w:World) (v:Value) (l:List ByteArray) (s:ByteArray) (hv:X5h w v l) :
    Calls Tryz.prog 139 #[v,.string s] w fun e w'=>e = .returned (.bool (Z3j l s)) ∧ w = w':=by
 obtain ⟨A,cap,rfl,hl,hcap,hc⟩:=hv.opened;clear hv;go_enter Tryz.func139,Tryz.ntmps139;go_wp2
 go_loop [5] (fun i=>∃ k:Nat,k ≤ l.length ∧ i = .int .i64 k ∧ Z3j (l.drop k) s = Z3j l s) (fun i=>l.length - (intOf i).toNat)
 case atStart=>exact ⟨0,Nat.zero_le _,rfl,rfl⟩
 case round =>
  obtain ⟨k,hk,rfl,hr⟩:=hrel;have HR:=Lib.hid hr; clear hr
  by_cases hlt:k < l.length
  · obtain ⟨b,off,rfl,hcell⟩:=hc k hlt
    have HD:=Lib.hid (Z4a hlt);obtain ⟨y,hy⟩:∃ y,sx l k = y:=⟨_,rfl⟩;rw [hy] at hcell HD;clear hc hy
    by_cases hx:y = s
    · have HX:=Lib.hid (str_eq hx)
      have hx1:=toList_eq rfl hx;clear hx;go_wp2;go_ret;exact ⟨Q1q (by rw [← HR.out,HD.out,X9x,HX.out,Bool.true_or]),rfl⟩
    · have HX:=Lib.hid (Q5k hx)
      have hx1:=Q6r rfl hx;clear hx;go_wp2;go_round
      case rel=>exact ⟨k + 1,by omega,by go_num,by rw [← HR.out,HD.out,X9x,HX.out,Bool.false_or]⟩
      case measure=>simp [intOf]; omega
  · clear hc
    go_wp2;go_ret;exact ⟨Q1q (by rw [← HR.out,List.drop_eq_nil_of_le (by omega)]; rfl),rfl⟩
theorem Y8e (s:ByteArray):Z3j [Q8z,sOr,Q5c] s = Q8s s:=by
 have h (a b:ByteArray):(a == b) = (b == a):=by
  by_cases h:a = b
  · rw [str_eq h,str_eq h.symm]
  · rw [Q5k h,Q5k (fun e=>h e.symm)]
 unfold Z3j Q8s;simp only [List.any_cons,List.any_nil,Bool.or_false];rw [h Q8z,h sOr,h Q5c,Bool.or_assoc]
theorem X8z (k:ByteArray) (need:Int) (l:List Int) (n:Int):Q8n k need l n = if Q8s k = false then 13 else if 12 < l.length then 5 else if Q2s l n ≠ 0 then Q2s l n else X0v k need l.length:=by
 unfold Q8n;cases Q8s k with
 | false=>rfl
 | true =>
   simp only [Q0h,if_true]
   by_cases h:12 < l.length
   · simp [h]
   · by_cases h2:Q2s l n = 0
     · simp only [h,h2,if_false,if_true]
       simp;intro h3; exact h3.symm
     · simp [h,h2]
set_option maxRecDepth 100000 in
set_option maxHeartbeats 1000000 in
theorem X8f (w:World) (k:ByteArray) (iv:Value) (need:Int) (l:List Int) (n:Int) (hl:Q0f w iv l) :
    Calls Tryz.prog 94 #[.agg #[.string k,.int .i64 need,iv],.int .i64 n] w fun e w'=>e = .returned (.int .i64 (Q8n k need l n)) ∧ Ext w w':=by
 obtain ⟨A,cap,rfl,hl1,hcap,hc⟩:=hl.opened;have HL:=Lib.hid hl;have HG:=Lib.hid (X8z k need l n);have HN:Hid (X0v k need l.length = if k = Q5c then Q0m need 1 l.length else Q0m need 0 0):=by exact (rfl:X0v k need l.length = _)
 have HKB:=Lib.hid (Y8e k);obtain ⟨kb,hkb⟩:∃ kb,Q8s k = kb:=⟨_,rfl⟩;rw [hkb] at HG HKB;clear hl hc hkb;go_enter Tryz.func94,Tryz.ntmps94;go_wp2_with fail;change Calls _ _ _ ((w.alloc (.cells #[.string k,.int .i64 need,.slice A l.length cap] 128)).alloc (.cells #[.string Q8z,.string sOr,.string Q5c] 9)) _;have k0:=Blk.made w 128 #[.string k,.int .i64 need,.slice A l.length cap];have x0:=Ext.box w (.cells #[.string k,.int .i64 need,.slice A l.length cap] 128);have es0:(w.alloc (.cells #[.string k,.int .i64 need,.slice A l.length cap] 128)).heap.size = w.heap.size + 1:=by simp
 obtain ⟨X0,hX0⟩:∃ X,w.alloc (.cells #[.string k,.int .i64 need,.slice A l.length cap] 128) = X:=⟨_,rfl⟩;rw [hX0] at k0 x0 es0 ⊢;clear hX0;have k1:=Blk.made X0 9 #[.string Q8z,.string sOr,.string Q5c];have x1:=Ext.box X0 (.cells #[.string Q8z,.string sOr,.string Q5c] 9);have es1:(X0.alloc (.cells #[.string Q8z,.string sOr,.string Q5c] 9)).heap.size = X0.heap.size + 1:=by simp
 obtain ⟨X1,hX1⟩:∃ X,X0.alloc (.cells #[.string Q8z,.string sOr,.string Q5c] 9) = X:=⟨_,rfl⟩;rw [hX1] at k1 x1 es1 ⊢;clear hX1;replace k0:=k0.ext x1;have e0:X0.heap.size = w.heap.size + 1:=by omega
 have e1:X1.heap.size = w.heap.size + 1 + 1:=by omega
 rw [e0] at k1;have HXW:Hid (Ext w X1):=by exact (Ext.trans (x0) x1:Ext w X1)
 have eW:X1.heap.size = w.heap.size + 1 + 1:=e1;clear x0 es0 e0 x1 es1 e1;obtain ⟨W,hWW⟩:∃ W,X1 = W:=⟨_,rfl⟩;rw [hWW] at HXW eW ⊢ k0 k1;clear hWW;have c0:=k0.cell 0;have c1:=k0.cell 1;have c2:=k0.cell 2;simp only [List.getElem?_toArray,List.getElem?_cons_zero,List.getElem?_cons_succ] at c0 c1 c2;have hss:X5h W (.slice (some ⟨w.heap.size + 1,0,none⟩) 3 3) [Q8z,sOr,Q5c]:=⟨fun j=>[Value.string Q8z,.string sOr,.string Q5c].getD j undef,⟨_,3,rfl,by simp,by simp,fun j hj=>⟨_,0,rfl,by
  have hj3:j < 3:=by simpa using hj
  rw [Nat.zero_add,k1.cell j];have:j = 0 ∨ j = 1 ∨ j = 2:=by omega
  rcases this with rfl | rfl | rfl <;> rfl⟩⟩,fun j hj=>by
  have hj3:j < 3:=by simpa using hj
  have:j = 0 ∨ j = 1 ∨ j = 2:=by omega
  rcases this with rfl | rfl | rfl <;> rfl⟩
 refine (Y1v _ _ _ k hss).mono ?_;rintro e w' ⟨rfl,rfl⟩;rw [HKB.out];have HL:=Lib.hid (HL.out.ext HXW.out);clear hss k0 k1;cases kb with
 | false =>
   go_wp2;go_ret;exact ⟨Q1f (by rw [HG.out]; rfl),HXW.out⟩
 | true =>
   by_cases hb:12 < l.length
   · have hb':(12:Int) < (l.length:Int):=by omega
     have HB:=Lib.hid hb; clear hb;go_wp2;go_ret;exact ⟨Q1f (by rw [HG.out,if_neg (by decide),if_pos HB.out]),HXW.out⟩
   · have hb':¬ (12:Int) < (l.length:Int):=by omega
     have HB:=Lib.hid hb; clear hb;have HCL:=Lib.hid (X1m W _ l n HL.out);obtain ⟨E,hE⟩:∃ E,Q2s l n = E:=⟨_,rfl⟩;rw [hE] at HCL HG;clear hE;go_wp2_with fail;refine HCL.out.mono ?_;rintro e w1 ⟨rfl,hx1⟩;replace c0:=hx1.cell c0;replace c1:=hx1.cell c1;replace c2:=hx1.cell c2;have HXX:=Lib.hid (HXW.out.trans hx1)
     by_cases hE:E = 0
     · have hne:(E != 0) = false:=by simp [hE]
       have HE:=Lib.hid hE; clear hE
       by_cases hv:k = Q5c
       · have HV:=Lib.hid hv
         rw [hv] at c0;unfold Q5c at c0;have hl2:(0:Int) ≤ (l.length:Int):=by omega
         clear hv;go_wp2_with (go_at_call 39; refine (Q5u _ _ _ _).mono ?_; rintro e w' ⟨rfl,rfl⟩);go_ret;exact ⟨Q1f (by rw [HG.out,if_neg (by decide),if_neg HB.out,if_neg (by rw [HE.out]; simp),HN.out,if_pos HV.out]),HXX.out⟩
       · have hv':=Q6r X4n hv
         have HV:=Lib.hid hv;clear hv;go_wp2_with (go_at_call 39; refine (Q5u _ _ _ _).mono ?_; rintro e w' ⟨rfl,rfl⟩);go_ret;exact ⟨Q1f (by rw [HG.out,if_neg (by decide),if_neg HB.out,if_neg (by rw [HE.out]; simp),HN.out,if_neg HV.out]),HXX.out⟩
     · have hne:(E != 0) = true:=by simp [hE]
       have HE:=Lib.hid hE; clear hE;go_wp2;go_ret;exact ⟨Q1f (by rw [HG.out,if_neg (by decide),if_neg HB.out,if_pos HE.out]),HXX.out⟩
end Go.Proofs
