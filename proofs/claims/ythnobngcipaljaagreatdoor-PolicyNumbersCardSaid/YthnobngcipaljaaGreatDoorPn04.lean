/- Contract of isName: a name by its bytes. Contracts of the reference: IsName, CheckName, HasWord, checkGate. What the functions of chapter 5 come to, in plain lists and numbers: no program is in sight here. Plain law: any list that ascends strictly and has just the histories of the members is the reference's list of histories. Plain law: the program's plans are policies, and no policy does better than all of them. -/
import Derived.Test.YthnobngcipaljaaGreatDoorPn03
import Derived.Test.YthnobngcipaljaaGreatDoorPn01
set_option maxRecDepth 1000000
set_option maxHeartbeats 64000000
set_option linter.unusedVariables false
set_option linter.unusedSimpArgs false
set_option linter.constructorNameAsVariable false
open Go.Lib (hid)
namespace Go.Proofs
open Go.RowKit Go.Tw
def Q1l (first:Bool):List UInt8 -> Bool
 | []=>true
 | c :: l=>(Q1y c || (!first && Q4k c)) && Q1l false l
theorem X6p:∀ l:List UInt8,Q1l false l=l.all fun c=>Q1y c || Q4k c
 | []=>rfl
 | c :: l=>by simp [Q1l,X6p l]
theorem Q1r (s:ByteArray):nameB s=(Q1l true s.data.toList && (decide (s.data.toList ≠ []) && decide (s.data.toList.length <= 24))):=by
 unfold nameB;cases s.data.toList with
 | nil=>rfl
 | cons c l =>
   simp only [Q1l,X6p,Bool.not_true,Bool.false_and,Bool.or_false,List.length_cons];rw [show decide (c :: l ≠ [])=true from by simp,Bool.true_and]
   congr 1
theorem Z2s (s:ByteArray) (pos:Nat) (h:pos < s.size):s.data.toList.drop pos=s[pos]'h :: s.data.toList.drop (pos + 1):=by
 have h':pos < s.data.toList.length:=by simpa using h
 rw [List.drop_eq_getElem_cons h'];rfl
theorem Y2s (c:UInt8):Q1y c=(decide (97 <= c.toNat /\ c.toNat <= 122) || decide (65 <= c.toNat /\ c.toNat <= 90)):=by
 unfold Q1y;simp only [UInt8.le_iff_toNat_le];simp
theorem Y8c (c:UInt8):Q4k c=(decide (c.toNat=95) || decide (48 <= c.toNat /\ c.toNat <= 57)):=by
 unfold Q4k;simp only [UInt8.le_iff_toNat_le];rw [show (c == 95)=decide (c.toNat=95) from by rw [show (c == 95)=decide (c=95) from rfl]; exact decide_eq_decide.2 ⟨fun h=>by subst h; rfl,fun h=>UInt8.toNat_inj.1 h⟩]
 simp
theorem J3c (s:ByteArray) (pos:Nat) (h:pos < s.size):∃ n d,Utf8.decode s pos=(n,d) /\ 1 <= d /\ (n < 128 -> n=(s[pos]'h).toNat /\ d=1) /\ (128 <= n -> 128 <= (s[pos]'h).toNat):=by
 by_cases ha:(s[pos]'h).toNat < 128
 . exact ⟨_,_,decode_ascii s pos h ha,Nat.le_refl _,fun _=>⟨rfl,rfl⟩,fun h'=>h'⟩
 . have:=decode_high s pos h (by omega)
   obtain ⟨n,d,hnd⟩:∃ n d,Utf8.decode s pos=(n,d):=⟨_,_,rfl⟩;rw [hnd] at this;exact ⟨n,d,hnd,this.2,fun h'=>by have:=this.1; omega,fun _=>by omega⟩
theorem Z2b {s:ByteArray} (h:s.toList=[]):s.data.toList=[]:=by rw [toList_nil_iff_emptyBytes] at h; subst h; rfl
theorem Z7u {s:ByteArray} (h:¬ s.toList=[]):s.data.toList ≠ []:=fun e=>h (by
 rw [toList_nil_iff_emptyBytes];obtain ⟨⟨l⟩⟩:=s;simp only at e;subst e; rfl)
theorem Z4n (w:World) (s:ByteArray) (hs:Short s) :
    Calls Tryz.prog 124 #[.string s] w fun e w'=>e=.returned (.bool (nameB s)) /\ Ext w w':=by
 unfold Short at hs;go_enter Tryz.func124,Tryz.ntmps124;go_wp2
 go_loopw [9] (fun _ w'=>∃ pos:Nat,w'=w.iter s pos /\ Q1l (pos == 0) (s.data.toList.drop pos)=Q1l true s.data.toList) (fun _ w'=>s.size - w'.iterPos w.heap.size)
 case atStart=>exact ⟨0,rfl,rfl⟩
 case round =>
  obtain ⟨pos,rfl,hc⟩:=hrel;have HC:=hid hc; clear hc
  by_cases hp:pos < s.size
  . obtain ⟨n,d,hd,hd1,hn1,hn2⟩:=J3c s pos hp
    have hnx:∀ ty,(Instr.next (.pointer (some ⟨w.heap.size,0,none⟩)) true ty).run Tryz.prog (w.iter s pos)=.ok (.tuple #[.bool true,.int .i64 pos,.int .i32 n]) (w.iter s (pos + d)):=fun ty=>by
     rw [run_next_any w s pos ty hp,hd]
    have HB:=hid (Z2s s pos hp);have HL:=hid (Y2s (s[pos]'hp));have HO:=hid (Y8c (s[pos]'hp));obtain ⟨c,hcc⟩:∃ c,s[pos]'hp=c:=⟨_,rfl⟩;rw [hcc] at hn1 hn2 HB HL HO;have HN1:=hid hn1;have HN2:=hid hn2;clear hcc hd hn1 hn2;have hcl:(65 <= n /\ n <= 90) ∨ (97 <= n /\ n <= 122) ∨ (48 <= n /\ n <= 57) ∨ n=95 ∨ n < 48 ∨ (58 <= n /\ n < 65) ∨ (91 <= n /\ n < 97 /\ n ≠ 95) ∨ 123 <= n:=by omega
    obtain ⟨N,hN⟩:∃ N:Int,(n:Int)=N:=⟨_,rfl⟩;rw [hN] at hnx
    rcases hcl with hcl | hcl | hcl | hcl | hcl | hcl | hcl | hcl
    . have f0:65 <= N:=by omega
      have f1:N <= 90:=by omega
      have HX:Hid (Q1y c=true):=by
       exact (by rw [HL.out,<- (HN1.out (by omega)).1]; simp; omega:Q1y c=true)
      have HD:Hid (d=1):=by exact (HN1.out (by omega)).2
      clear hcl hN;go_wp2;go_roundw
      case rel=>exact ⟨pos + d,rfl,by rw [<- HC.out,HB.out,HD.out]; simp [Q1l,HX.out]⟩
      case measure=>simp; omega
    . have f0:65 <= N:=by omega
      have f1:¬ N <= 90:=by omega
      have f2:97 <= N:=by omega
      have f3:N <= 122:=by omega
      have HX:Hid (Q1y c=true):=by
       exact (by rw [HL.out,<- (HN1.out (by omega)).1]; simp; omega:Q1y c=true)
      have HD:Hid (d=1):=by exact (HN1.out (by omega)).2
      clear hcl hN;go_wp2;go_roundw
      case rel=>exact ⟨pos + d,rfl,by rw [<- HC.out,HB.out,HD.out]; simp [Q1l,HX.out]⟩
      case measure=>simp; omega
    . have f0:¬ 65 <= N:=by omega
      have f1:¬ 97 <= N:=by omega
      have f2:48 <= N:=by omega
      have f3:N <= 57:=by omega
      have HX:Hid (Q1y c=false /\ Q4k c=true):=by
       exact (by rw [HL.out,HO.out,<- (HN1.out (by omega)).1]; simp; omega:Q1y c=false /\ Q4k c=true)
      have HD:Hid (d=1):=by exact (HN1.out (by omega)).2
      clear hcl hN
      by_cases h0:pos=0
      . subst h0
        go_wp2;go_ret;exact ⟨Q0w (by rw [Q1r,<- HC.out,HB.out]; simp [Q1l,HX.out.1]),Ext.box _ _⟩
      . have h0':(((pos:Nat):Int) == 0)=false:=by rw [beq_eq_false_iff_ne]; omega
        have HP:=hid h0; clear h0;go_wp2;go_roundw
        case rel=>exact ⟨pos + d,rfl,by rw [<- HC.out,HB.out,HD.out]; simp [Q1l,HX.out.1,HX.out.2,HP.out]⟩
        case measure=>simp; omega
    . have f0:65 <= N:=by omega
      have f1:¬ N <= 90:=by omega
      have f2:¬ 97 <= N:=by omega
      have f3:48 <= N:=by omega
      have f4:¬ N <= 57:=by omega
      have f5:(N == 95)=true:=by rw [beq_iff_eq]; omega
      have HX:Hid (Q1y c=false /\ Q4k c=true):=by
       exact (by rw [HL.out,HO.out,<- (HN1.out (by omega)).1]; simp; omega:Q1y c=false /\ Q4k c=true)
      have HD:Hid (d=1):=by exact (HN1.out (by omega)).2
      clear hcl hN
      by_cases h0:pos=0
      . subst h0
        go_wp2;go_ret;exact ⟨Q0w (by rw [Q1r,<- HC.out,HB.out]; simp [Q1l,HX.out.1]),Ext.box _ _⟩
      . have h0':(((pos:Nat):Int) == 0)=false:=by rw [beq_eq_false_iff_ne]; omega
        have HP:=hid h0; clear h0;go_wp2;go_roundw
        case rel=>exact ⟨pos + d,rfl,by rw [<- HC.out,HB.out,HD.out]; simp [Q1l,HX.out.1,HX.out.2,HP.out]⟩
        case measure=>simp; omega
    . have f0:¬ 65 <= N:=by omega
      have f1:¬ 97 <= N:=by omega
      have f2:¬ 48 <= N:=by omega
      have f3:(N == 95)=false:=by rw [beq_eq_false_iff_ne]; omega
      have HX:Hid (Q1y c=false /\ Q4k c=false):=by
       exact (by
        rcases Nat.lt_or_ge n 128 with h | h
        . rw [HL.out,HO.out,<- (HN1.out h).1]; simp; omega
        . have:=HN2.out h
          rw [HL.out,HO.out]; simp; omega:Q1y c=false /\ Q4k c=false)
      clear hcl hN
      by_cases h0:pos=0
      . subst h0
        go_wp2;go_ret;exact ⟨Q0w (by rw [Q1r,<- HC.out,HB.out]; simp [Q1l,HX.out.1]),Ext.box _ _⟩
      . have h0':(((pos:Nat):Int) == 0)=false:=by rw [beq_eq_false_iff_ne]; omega
        have HP:=hid h0; clear h0;go_wp2;go_ret;exact ⟨Q0w (by rw [Q1r,<- HC.out,HB.out]; simp [Q1l,HX.out.1,HX.out.2]),Ext.box _ _⟩
    . have f0:¬ 65 <= N:=by omega
      have f1:¬ 97 <= N:=by omega
      have f2:48 <= N:=by omega
      have f3:¬ N <= 57:=by omega
      have f4:(N == 95)=false:=by rw [beq_eq_false_iff_ne]; omega
      have HX:Hid (Q1y c=false /\ Q4k c=false):=by
       exact (by
        rcases Nat.lt_or_ge n 128 with h | h
        . rw [HL.out,HO.out,<- (HN1.out h).1]; simp; omega
        . have:=HN2.out h
          rw [HL.out,HO.out]; simp; omega:Q1y c=false /\ Q4k c=false)
      clear hcl hN
      by_cases h0:pos=0
      . subst h0
        go_wp2;go_ret;exact ⟨Q0w (by rw [Q1r,<- HC.out,HB.out]; simp [Q1l,HX.out.1]),Ext.box _ _⟩
      . have h0':(((pos:Nat):Int) == 0)=false:=by rw [beq_eq_false_iff_ne]; omega
        have HP:=hid h0; clear h0;go_wp2;go_ret;exact ⟨Q0w (by rw [Q1r,<- HC.out,HB.out]; simp [Q1l,HX.out.1,HX.out.2]),Ext.box _ _⟩
    . have f0:65 <= N:=by omega
      have f1:¬ N <= 90:=by omega
      have f2:¬ 97 <= N:=by omega
      have f3:48 <= N:=by omega
      have f4:¬ N <= 57:=by omega
      have f5:(N == 95)=false:=by rw [beq_eq_false_iff_ne]; omega
      have HX:Hid (Q1y c=false /\ Q4k c=false):=by
       exact (by
        rcases Nat.lt_or_ge n 128 with h | h
        . rw [HL.out,HO.out,<- (HN1.out h).1]; simp; omega
        . have:=HN2.out h
          rw [HL.out,HO.out]; simp; omega:Q1y c=false /\ Q4k c=false)
      clear hcl hN
      by_cases h0:pos=0
      . subst h0
        go_wp2;go_ret;exact ⟨Q0w (by rw [Q1r,<- HC.out,HB.out]; simp [Q1l,HX.out.1]),Ext.box _ _⟩
      . have h0':(((pos:Nat):Int) == 0)=false:=by rw [beq_eq_false_iff_ne]; omega
        have HP:=hid h0; clear h0;go_wp2;go_ret;exact ⟨Q0w (by rw [Q1r,<- HC.out,HB.out]; simp [Q1l,HX.out.1,HX.out.2]),Ext.box _ _⟩
    . have f0:65 <= N:=by omega
      have f1:¬ N <= 90:=by omega
      have f2:97 <= N:=by omega
      have f3:¬ N <= 122:=by omega
      have f4:48 <= N:=by omega
      have f5:¬ N <= 57:=by omega
      have f6:(N == 95)=false:=by rw [beq_eq_false_iff_ne]; omega
      have HX:Hid (Q1y c=false /\ Q4k c=false):=by
       exact (by
        rcases Nat.lt_or_ge n 128 with h | h
        . rw [HL.out,HO.out,<- (HN1.out h).1]; simp; omega
        . have:=HN2.out h
          rw [HL.out,HO.out]; simp; omega:Q1y c=false /\ Q4k c=false)
      clear hcl hN
      by_cases h0:pos=0
      . subst h0
        go_wp2;go_ret;exact ⟨Q0w (by rw [Q1r,<- HC.out,HB.out]; simp [Q1l,HX.out.1]),Ext.box _ _⟩
      . have h0':(((pos:Nat):Int) == 0)=false:=by rw [beq_eq_false_iff_ne]; omega
        have HP:=hid h0; clear h0;go_wp2;go_ret;exact ⟨Q0w (by rw [Q1r,<- HC.out,HB.out]; simp [Q1l,HX.out.1,HX.out.2]),Ext.box _ _⟩
  . have hnx:∀ ty,(Instr.next (.pointer (some ⟨w.heap.size,0,none⟩)) true ty).run Tryz.prog (w.iter s pos)=_:=fun ty=>run_next_end w s pos ty hp
    have HF:Hid (Q1l true s.data.toList=true):=by
     exact (by rw [<- HC.out,List.drop_eq_nil_of_le (by simpa using hp)]; rfl:Q1l true s.data.toList=true)
    have hsz:s.data.toList.length=s.size:=by simp
    have HS:=hid hsz;clear hsz hp
    by_cases h24:(s.size:Int) <= 24
    . have H24:=hid h24
      go_wp2
      . have he:s.toList=[]:=by assumption
        go_ret;exact ⟨Q0w (by rw [Q1r,HF.out,Z2b he]; rfl),Ext.box _ _⟩
      . have he:¬ s.toList=[]:=by assumption
        go_ret;exact ⟨Q0w (by have:=HS.out; have:=H24.out; rw [Q1r,HF.out,Bool.true_and,decide_eq_true (Z7u he),Bool.true_and]; rw [decide_eq_true (by omega:s.data.toList.length <= 24)]; simp [he]),Ext.box _ _⟩
    . have H24:=hid h24
      go_wp2
      . have he:s.toList=[]:=by assumption
        go_ret;exact ⟨Q0w (by rw [Q1r,HF.out,Z2b he]; rfl),Ext.box _ _⟩
      . have he:¬ s.toList=[]:=by assumption
        go_ret;exact ⟨Q0w (by have:=HS.out; have:=H24.out; rw [Q1r,HF.out,Bool.true_and,decide_eq_true (Z7u he),Bool.true_and]; exact (decide_eq_false (by omega)).symm),Ext.box _ _⟩
end Go.Proofs
namespace Go.Proofs
open Go.RowKit Go.Tw Go.Flow
theorem Z5r (w:World) (s:ByteArray) (hs:Short s) :
    Calls Tryz.prog 156 #[.string s] w fun e w'=>e=.returned (.bool (nameB s)) /\ w=w':=by
 unfold Short at hs;have hsz:s.data.toList.length=s.size:=by simp
 by_cases hz:s.size=0
 . have HR:Hid (nameB s=false):=by
    rw [Q1r];have:s.data.toList=[]:=List.length_eq_zero_iff.1 (by omega)
    rw [this]; exact rfl
   have hz':((s.size:Int) == 0)=true:=by rw [beq_iff_eq]; omega
   clear hz hsz;go_enter Tryz.func156,Tryz.ntmps156;go_wp2;go_ret;exact ⟨Q0w HR.out.symm,rfl⟩
 . have hz':((s.size:Int) == 0)=false:=by rw [beq_eq_false_iff_ne]; omega
   by_cases hb:24 < s.size
   . have HR:Hid (nameB s=false):=by
      rw [Q1r,show decide (s.data.toList.length <= 24)=false from decide_eq_false (by omega)]
      rw [Bool.and_false,Bool.and_false]; exact rfl
     have hb':(24:Int) < (s.size:Int):=by omega
     clear hz hsz;go_enter Tryz.func156,Tryz.ntmps156;go_wp2;go_ret;exact ⟨Q0w HR.out.symm,rfl⟩
   . have HR:Hid (nameB s=Q1l true s.data.toList):=by
      rw [Q1r,show decide (s.data.toList.length <= 24)=true from decide_eq_true (by omega),show decide (s.data.toList ≠ [])=true from decide_eq_true (fun e=>hz (by rw [<- hsz,e]; rfl))]
      rw [Bool.and_true,Bool.and_true]; exact rfl
     have HSZ:=hid hsz;have hb':¬ (24:Int) < (s.size:Int):=by omega
     clear hz hsz;go_enter Tryz.func156,Tryz.ntmps156;go_wp2
     go_loop [3] (fun i=>∃ k:Nat,k <= s.size /\ i=.int .i64 k /\ Q1l (k == 0) (s.data.toList.drop k)=Q1l true s.data.toList) (fun i=>s.size - (intOf i).toNat)
     case atStart=>exact ⟨0,Nat.zero_le _,rfl,rfl⟩
     case round =>
      obtain ⟨k,hk,rfl,hc⟩:=hrel;have HC:=hid hc; clear hc
      by_cases hlt:k < s.size
      . have HB:=hid (Z2s s k hlt)
        have HL:=hid (Y2s (s[k]'hlt));have HO:=hid (Y8c (s[k]'hlt));have hcl:(65 <= (s[k]'hlt).toNat /\ (s[k]'hlt).toNat <= 90) ∨ (97 <= (s[k]'hlt).toNat /\ (s[k]'hlt).toNat <= 122) ∨ (48 <= (s[k]'hlt).toNat /\ (s[k]'hlt).toNat <= 57) ∨ (s[k]'hlt).toNat=95 ∨ (s[k]'hlt).toNat < 48 ∨ (58 <= (s[k]'hlt).toNat /\ (s[k]'hlt).toNat < 65) ∨ (91 <= (s[k]'hlt).toNat /\ (s[k]'hlt).toNat < 97 /\ (s[k]'hlt).toNat ≠ 95) ∨ 123 <= (s[k]'hlt).toNat:=by omega
        have hdef:((s[k]'hlt).toNat:Int)=95 ∨ ¬ ((s[k]'hlt).toNat:Int)=95:=by omega
        have go (b1 b2:Bool) (hl:Q1y (s[k]'hlt)=b1) (ho:Q4k (s[k]'hlt)=b2):Q1l (k == 0) (s.data.toList.drop k)=((b1 || (!(k == 0) && b2)) && Q1l false (s.data.toList.drop (k + 1))):=by
         rw [HB.out,Q1l,hl,ho]
        have GO:=hid go;clear go
        rcases hcl with hcl | hcl | hcl | hcl | hcl | hcl | hcl | hcl
        case inl | inr.inl =>
         all_goals
          have HX:Hid (Q1y (s[k]'hlt)=true):=by
           exact (by rw [HL.out]; simp; omega:Q1y (s[k]'hlt)=true)
          have f0:decide (97 <= ((s[k]'hlt).toNat:Int))=decide (97 <= (s[k]'hlt).toNat):=by rw [decide_eq_decide]; omega
          have f1:(65:Int) <= ((s[k]'hlt).toNat:Int):=by omega
          have f2:((s[k]'hlt).toNat:Int) <= 122:=by omega
          first | (have f3:((s[k]'hlt).toNat:Int) <= 90:=by omega) | (have f3:(97:Int) <= ((s[k]'hlt).toNat:Int):=by omega)
          first | (have f4:¬ (97:Int) <= ((s[k]'hlt).toNat:Int):=by omega) | skip
          clear hcl hdef f0;go_wp2;go_round
          case rel=>exact ⟨k + 1,by omega,by go_num,by rw [<- HC.out,GO.out _ _ HX.out rfl,Bool.true_or,Bool.true_and]; rfl⟩
          case measure=>simp [intOf]; omega
        case inr.inr.inl | inr.inr.inr.inl =>
         all_goals
          have HX:Hid (Q1y (s[k]'hlt)=false /\ Q4k (s[k]'hlt)=true):=by
           exact (by rw [HL.out,HO.out]; simp; omega:Q1y (s[k]'hlt)=false /\ Q4k (s[k]'hlt)=true)
          have f1:¬ (97:Int) <= ((s[k]'hlt).toNat:Int):=by omega
          first | (have f2:¬ (65:Int) <= ((s[k]'hlt).toNat:Int):=by omega) | (have f2:(65:Int) <= ((s[k]'hlt).toNat:Int):=by omega)
          have f3:(¬ ((s[k]'hlt).toNat:Int) <= 90) ∨ ((s[k]'hlt).toNat:Int) <= 90:=by omega
          first | (have f4:¬ ((s[k]'hlt).toNat:Int) <= 90:=by omega) | skip
          first | (have f5:(((s[k]'hlt).toNat:Int) != 95)=false:=by rw [bne_eq_false_iff_eq]; omega) | (have f5:(((s[k]'hlt).toNat:Int) != 95)=true:=by rw [bne_iff_ne]; omega)
          first | (have f6:¬ ((s[k]'hlt).toNat:Int) < 48:=by omega) | skip
          first | (have f7:¬ (57:Int) < ((s[k]'hlt).toNat:Int):=by omega) | skip
          clear hcl hdef f3
          by_cases h0:k=0
          . subst h0
            go_wp2;go_ret;exact ⟨Q0w (by rw [HR.out,<- HC.out,GO.out _ _ HX.out.1 HX.out.2]; rfl),rfl⟩
          . have h0':(((k:Nat):Int) == 0)=false:=by rw [beq_eq_false_iff_ne]; omega
            have HK:Hid ((k == 0)=false):=hid (by rw [beq_eq_false_iff_ne]; omega)
            clear h0;go_wp2;go_round
            case rel=>exact ⟨k + 1,by omega,by go_num,by rw [<- HC.out,GO.out _ _ HX.out.1 HX.out.2,HK.out]; rfl⟩
            case measure=>simp [intOf]; omega
        all_goals
         have HX:Hid (Q1y (s[k]'hlt)=false /\ Q4k (s[k]'hlt)=false):=by
          exact (by rw [HL.out,HO.out]; simp; omega:Q1y (s[k]'hlt)=false /\ Q4k (s[k]'hlt)=false)
         first | (have f1:¬ (97:Int) <= ((s[k]'hlt).toNat:Int):=by omega) | (have f1:(97:Int) <= ((s[k]'hlt).toNat:Int):=by omega)
         first | (have f2:¬ (65:Int) <= ((s[k]'hlt).toNat:Int):=by omega) | (have f2:(65:Int) <= ((s[k]'hlt).toNat:Int):=by omega)
         first | (have f3:¬ ((s[k]'hlt).toNat:Int) <= 122:=by omega) | skip
         first | (have f4:¬ ((s[k]'hlt).toNat:Int) <= 90:=by omega) | skip
         have f5:(((s[k]'hlt).toNat:Int) != 95)=true:=by rw [bne_iff_ne]; omega
         first | (have f6:((s[k]'hlt).toNat:Int) < 48:=by omega) | (have f6:¬ ((s[k]'hlt).toNat:Int) < 48:=by omega)
         first | (have f7:(57:Int) < ((s[k]'hlt).toNat:Int):=by omega) | skip
         clear hcl hdef
         by_cases h0:k=0
         . subst h0
           go_wp2;go_ret;exact ⟨Q0w (by rw [HR.out,<- HC.out,GO.out _ _ HX.out.1 HX.out.2]; rfl),rfl⟩
         . have h0':(((k:Nat):Int) == 0)=false:=by rw [beq_eq_false_iff_ne]; omega
           clear h0;go_wp2;go_ret;exact ⟨Q0w (by rw [HR.out,<- HC.out,GO.out _ _ HX.out.1 HX.out.2]; simp),rfl⟩
      . go_wp2
        go_ret;exact ⟨Q0w (by rw [HR.out,<- HC.out,List.drop_eq_nil_of_le (by rw [HSZ.out]; omega)]; rfl),rfl⟩
end Go.Proofs
namespace Go.Tw
def Q0s (l:List Int) (most:Int):Int:=Q0l (l.map fun x=>Q0h x 0 most)
def Q3s (l:List Mem) (i:Nat):Bool:=(List.range i).any fun k=>Q1o l k == Q1o l i
namespace Q0b
def Q3g (s:Q0b) (i:Nat):Int :=
 if nameB (Q1o s.members i)=false then 8 else if Q3s s.members i=true then 9 else if Q0h (Q0k s.members i) 1 1000 ≠ 0 then 3 else
 if ¬ ((Q0c s.members i).length=s.ships.length /\ (Q0z s.members i).length=s.ships.length /\ (Q1f s.members i).length=s.ships.length) then 2 else
 Q0l [Q0s (Q0c s.members i) 9,Q0s (Q0z s.members i) 1024,Q0s (Q1f s.members i) 1024]
def err (s:Q0b):Int :=
 if Q0h s.limit 0 1024 ≠ 0 then 3 else if s.ships.length=0 then 12 else if 6 < s.ships.length then 5 else if Q0s s.ships 1000 ≠ 0 then 3 else
 if s.members.length=0 then 12 else if 8 < s.members.length then 5 else Q0l ((List.range s.members.length).map s.Q3g)
end Q0b
def Q6r (h:List Int) (row:List (List Int)):List (List Int) :=
 let k:=Q1v h row row.length
 if 0 < k /\ row.getD (k - 1) []=h then row else row.take k ++ [h] ++ row.drop k
namespace Q0b
def Q5p (s:Q0b) (t:Nat):Nat -> List (List Int)
 | 0=>[]
 | i + 1=>Q6r ((Q0c s.members i).take (t + 1)) (s.Q5p t i)
def Q5i (s:Q0b):Nat -> List (List Int)
 | 0=>[]
 | t + 1=>s.Q5i t ++ s.Q5p t s.members.length
def hist (s:Q0b):List (List Int):=s.Q5i s.ships.length
def X9h (s:Q0b):List (List Int):=s.members.flatMap fun m=>(List.range m.classes.length).map fun t=>m.classes.take (t + 1)
end Q0b
def Q1c (h:List (List Int)) (p:List Rul):Int:=if p.length ≠ h.length then 2 else if (p.map Rul.classes) ≠ h then 11 else 0
def Q1i (s:Q0b) (p:List Rul):Int:=if s.err ≠ 0 then s.err else Q1c s.hist p
def look (p:List Rul) (h:List Int):Bool:=match p.find? (fun r=>r.classes == h) with | some r=>r.close | none=>false
def Q0i (p:List Rul) (l:List Int):List Bool:=(List.range l.length).map fun t=>look p (l.take (t + 1))
namespace Mem
def stepT (m:Mem) (t:Nat) (level:Int) (c:Bool):Int × Int:=if c then (level + ix m.inflow t,level + ix m.inflow t) else (ix m.outside t,0)
def Q2g (m:Mem):Nat -> Int -> List Bool -> List Int
 | _,_,[]=>[]
 | t,level,c :: r=>(m.stepT t level c).1 :: m.Q2g (t + 1) (m.stepT t level c).2 r
def Q3z (m:Mem) (l:List Bool):List Int:=m.Q2g 0 0 l
def keeps (m:Mem) (limit:Int) (l:List Bool):Bool:=!((m.Q3z l).any fun x=>decide (limit < x))
end Mem
def Q1q (s:Q0b) (i:Nat):Mem:=s.members.getD i default
def Q2o (s:Q0b) (p:List Rul):List Int :=
 ((List.range s.members.length).filter fun i=>(Q1q s i).keeps s.limit (Q0i p (Q1q s i).classes)).map Int.ofNat
def Q1k (s:Q0b) (l:List Int):Int:=(l.map fun i=>Q0k s.members i.toNat).sum
def allL (s:Q0b):List Int:=(List.range s.members.length).map Int.ofNat
def Q3t (s:Q0b) (l:List Int):Int:=if 8 < l.length then 5 else
 Q0l ((List.range l.length).map fun i=>if ix l i < 0 ∨ (s.members.length:Int) <= ix l i then 10 else if 0 < i /\ ix l i <= ix l (i - 1) then 11 else 0)
def Q6a (s:Q0b) (p:List Rul):Ratio:=lowest (Q1k s (Q2o s p)) (Q1k s (allL s))
def countB (l:List Bool):Int:=(l.countP id:Nat)
def Q3f (s:Q0b) (l:List Bool):Int:=((List.range l.length).map fun t=>if l.getD t false then ix s.ships t else 0).sum
def Q4e (s:Q0b) (p:List Rul):Int:=(s.members.map fun m=>m.weight * countB (Q0i p m.classes)).sum
def Q9a (s:Q0b) (p:List Rul):Int:=(s.members.map fun m=>m.weight * Q3f s (Q0i p m.classes)).sum
def Q5g (n t:Nat):List Bool:=(List.range t).map fun i=>n.testBit (t - 1 - i)
namespace Mem
def Q3r (m:Mem) (limit:Int) (t:Nat):Nat -> Option (List Bool)
 | 0=>none
 | n + 1=>if m.keeps limit (Q5g n t)=true /\ (∀ b,m.Q3r limit t n=some b -> countB (Q5g n t) < countB b) then some (Q5g n t) else m.Q3r limit t n
def X5y (m:Mem) (limit:Int) (t:Nat):Bool:=(List.range (2 ^ t)).any fun n=>m.keeps limit (Q5g n t)
end Mem
def alone (s:Q0b) (i:Nat):Option (List Bool):=(Q1q s i).Q3r s.limit s.ships.length (2 ^ s.ships.length)
def Q7b (s:Q0b) (i:Nat):Int:=match alone s i with | some b=>countB b | none=>0
def Q9i (s:Q0b) (i:Nat):Option Nat:=(List.range s.ships.length).find? fun t=>!(Q1q s i).X5y s.limit (t + 1)
def X8l (s:Q0b) (p:List Rul):Int :=
 ((Q2o s p).map fun i=>Q0k s.members i.toNat * (countB (Q0i p (Q0c s.members i.toNat)) - Q7b s i.toNat)).sum
def X0v (s:Q0b) (i:Nat):List Nat:=(List.range s.members.length).filter fun k=>Q0c s.members k == Q0c s.members i
def Y2o (s:Q0b) (l:List Nat) (n:Nat):Int:=(l.map fun k=>if (Q1q s k).keeps s.limit (Q5g n s.ships.length) then Q0k s.members k else 0).sum
def Y8y (s:Q0b) (l:List Nat):Int:=(List.range (2 ^ s.ships.length)).foldl (fun m n=>max m (Y2o s l n)) 0
def Q5z (s:Q0b):List Grp :=
 ((List.range s.members.length).filter fun i=>(X0v s i).head? == some i).map fun i=>⟨(X0v s i).map Int.ofNat,Y8y s (X0v s i)⟩
def Z3c (s:Q0b):Int:=((Q5z s).map Grp.weight).sum
structure Plan where
 weight:Int
 closings:Int
 delay:Int
 closed:List ByteArray
structure Runner where
 member:Nat
 level:Int
 dry:Bool
def Plan.Q4w (x o:Plan):Bool:=decide (o.weight <= x.weight) && decide (x.closings <= o.closings) && decide (x.delay <= o.delay)
def Q2f (out:List Plan) (x:Plan):List Plan:=if out.any (fun o=>o.Q4w x) then out else (out.filter fun o=>!x.Q4w o) ++ [x]
def X8z (l:List Plan):List Plan:=l.foldl Q2f []
def both (x y:Plan):Plan:=⟨x.weight + y.weight,x.closings + y.closings,x.delay + y.delay,x.closed ++ y.closed⟩
def together (a b:List Plan):List Plan:=X8z (a.flatMap fun x=>b.map (both x))
def Q6q (l:List Int):ByteArray:=⟨(l.map fun n=>UInt8.ofNat n.toNat).toArray⟩
def moved (s:Q0b) (t:Nat) (c:Bool) (l:List Runner):List Runner :=
 l.map fun x=>⟨x.member,((Q1q s x.member).stepT t x.level c).2,x.dry && decide (((Q1q s x.member).stepT t x.level c).1 <= s.limit)⟩
def Q5x (s:Q0b) (l:List Runner):Int:=(l.map fun x=>Q0k s.members x.member).sum
def Y5i (s:Q0b) (l:List Runner):Int:=(l.map fun x=>if x.dry then Q0k s.members x.member else 0).sum
def Q7r (s:Q0b) (t c:Nat) (l:List Runner):List Runner:=l.filter fun x=>ix (Q0c s.members x.member) t == (c:Int)
def Y7f (s:Q0b) (t:Nat):List Runner -> ByteArray
 | []=>⟨#[]⟩
 | x :: _=>Q6q ((Q0c s.members x.member).take (t + 1))
def Y2h (s:Q0b) (t:Nat) (l:List Runner) (x:Plan):Plan:=⟨x.weight,x.closings + Q5x s l,x.delay + Q5x s l * ix s.ships t,x.closed ++ [Y7f s t l]⟩
def Q4l (s:Q0b) (t:Nat) (sub:List Runner -> List Plan) (l:List Runner):List Plan :=
 X8z (sub (moved s t false l) ++ (sub (moved s t true l)).map (Y2h s t l))
def Q2k (s:Q0b) (t:Nat) (sub:List Runner -> List Plan) (l:List Runner):Nat -> List Plan
 | 0=>[⟨0,0,0,[]⟩]
 | c + 1=>if Q7r s t c l=[] then Q2k s t sub l c else together (Q2k s t sub l c) (Q4l s t sub (Q7r s t c l))
def Q2j (s:Q0b):Nat -> List Runner -> List Plan
 | 0,l=>[⟨Y5i s l,0,0,[]⟩]
 | k + 1,l=>Q2k s (s.ships.length - (k + 1)) (Q2j s k) l 10
def Q2z (s:Q0b):List Plan:=Q2j s s.ships.length ((List.range s.members.length).map fun i=>⟨i,0,true⟩)
def Z9z (s:Q0b):Int:=(Q2z s).foldl (fun m x=>max m x.weight) 0
def Q2d (need:Int) (b:Option Plan) (x:Plan):Option Plan :=
 if x.weight < need then b else match b with
 | none=>some x
 | some o=>if x.closings < o.closings ∨ x.closings=o.closings /\ x.delay < o.delay then some x else b
def Y6y (s:Q0b) (need:Int):Option Plan:=(Q2z s).foldl (Q2d need) none
def Y1g (s:Q0b) (x:Plan):List Rul:=s.hist.map fun h=>⟨h,x.closed.contains (Q6q h)⟩
def Q0q:Q0b:=⟨30,[5,7],[⟨⟨#[97]⟩,2,[0,0],[20,40],[10,10]⟩,⟨⟨#[98]⟩,1,[0,1],[40,20],[10,25]⟩,⟨⟨#[99]⟩,1,[0,1],[20,20],[10,10]⟩]⟩
def X2l (a b c:Bool):List Rul:=[⟨[0],a⟩,⟨[0,0],b⟩,⟨[0,1],c⟩]
def Q7f:Q0b:=⟨30,[0,0],[⟨⟨#[122]⟩,1,[0,0],[40,40],[20,20]⟩]⟩
end Go.Tw
namespace Go.Tw
theorem Y5u {α:Type} {R:α -> α -> Prop} (irr:∀ a,¬ R a a) (asym:∀ a b,R a b -> ¬ R b a) :
    ∀ {l m:List α},l.Pairwise R -> m.Pairwise R -> (∀ x,x ∈ l ↔ x ∈ m) -> l=m
 | [],[],_,_,_=>rfl
 | [],b :: m,_,_,h=>absurd ((h b).2 List.mem_cons_self) (by simp)
 | a :: l,[],_,_,h=>absurd ((h a).1 List.mem_cons_self) (by simp)
 | a :: l,b :: m,hl,hm,h=>by
   obtain ⟨hl1,hl2⟩:=List.pairwise_cons.1 hl;obtain ⟨hm1,hm2⟩:=List.pairwise_cons.1 hm;have hab:a=b:=by
    rcases List.mem_cons.1 ((h a).1 List.mem_cons_self) with e | e
    . exact e
    . rcases List.mem_cons.1 ((h b).2 List.mem_cons_self) with e' | e'
      . exact e'.symm
      . exact absurd (hm1 a e) (asym _ _ (hl1 b e'))
   subst hab;rw [Y5u irr asym hl2 hm2 fun x=>?_]
   constructor
   . intro hx
     rcases List.mem_cons.1 ((h x).1 (List.mem_cons_of_mem _ hx)) with e | e
     . subst e; exact absurd (hl1 _ hx) (irr _)
     . exact e
   . intro hx
     rcases List.mem_cons.1 ((h x).2 (List.mem_cons_of_mem _ hx)) with e | e
     . subst e; exact absurd (hm1 _ hx) (irr _)
     . exact e
theorem X6g:∀ a:List Int,Q5b a a=false
 | []=>rfl
 | x :: l=>by simp [Q5b,X6g l]
theorem Y1w:∀ {a b:List Int},Q5b a b=true -> Q5b b a=false
 | [],_,h=>by simp [Q5b] at h
 | _ :: _,[],h=>by simp [Q5b] at h
 | x :: l,y :: m,h=>by
   unfold Q5b at h ⊢
   by_cases e:x=y
   . subst e; simp only [if_true] at h ⊢; exact Y1w h
   . rw [if_neg e] at h; rw [if_neg (Ne.symm e)]; simp only [decide_eq_true_eq,decide_eq_false_iff_not] at h ⊢; omega
theorem X9d:∀ {a b c:List Int},Q5b a b=true -> Q5b b c=true -> Q5b a c=true
 | [],_,_,h,_=>by simp [Q5b] at h
 | _ :: _,[],_,h,_=>by simp [Q5b] at h
 | _ :: _,_ :: _,[],_,h=>by simp [Q5b] at h
 | x :: l,y :: m,z :: n,h,k=>by
   unfold Q5b at h k ⊢
   by_cases e:x=y
   . subst e; simp only [if_true] at h
     by_cases e':x=z
     . subst e'; simp only [if_true] at k ⊢; exact X9d h k
     . rw [if_neg e'] at k ⊢; exact k
   . rw [if_neg e] at h
     by_cases e':y=z
     . subst e'; rw [if_neg e]; exact h
     . rw [if_neg e'] at k; simp only [decide_eq_true_eq] at h k
       rw [if_neg (by omega)]; simp only [decide_eq_true_eq]; omega
theorem Y9k:∀ {a b:List Int},a.length=b.length -> Q5b a b=false -> a=b ∨ Q5b b a=true
 | [],[],_,_=>.inl rfl
 | [],_ :: _,h,_=>by simp at h
 | _ :: _,[],h,_=>by simp at h
 | x :: l,y :: m,h,k=>by
   unfold Q5b at k ⊢
   by_cases e:x=y
   . subst e; simp only [if_true] at k ⊢
     rcases Y9k (Nat.succ.inj h) k with r | r
     . exact .inl (by rw [r])
     . exact .inr r
   . rw [if_neg e] at k; rw [if_neg (Ne.symm e)]
     simp only [decide_eq_true_eq,decide_eq_false_iff_not] at k ⊢; exact .inr (by omega)
theorem Q7l (a:List Int):¬ Q2a a a=true:=by simp [Q2a,X6g]
theorem Y8n (a b:List Int) (h:Q2a a b=true):¬ Q2a b a=true:=by
 unfold Q2a at h ⊢
 by_cases e:a.length=b.length
 . rw [if_pos e] at h; rw [if_pos e.symm,Y1w h]; simp
 . rw [if_neg e] at h; rw [if_neg (Ne.symm e)]; simp only [decide_eq_true_eq] at h ⊢; omega
theorem Q6f {a b c:List Int} (h:Q2a a b=true) (k:Q2a b c=true):Q2a a c=true:=by
 unfold Q2a at h k ⊢
 by_cases e:a.length=b.length
 . rw [if_pos e] at h
   by_cases e':b.length=c.length
   . rw [if_pos e'] at k; rw [if_pos (e.trans e')]; exact X9d h k
   . rw [if_neg e'] at k; rw [if_neg (by omega)]; rw [e]; exact k
 . rw [if_neg e] at h
   by_cases e':b.length=c.length
   . rw [if_neg (by omega),<- e']; exact h
   . rw [if_neg e'] at k; simp only [decide_eq_true_eq] at h k; rw [if_neg (by omega)]; simp only [decide_eq_true_eq]; omega
theorem X9k {a b:List Int} (h:Q2a a b=false):a=b ∨ Q2a b a=true:=by
 unfold Q2a at h ⊢
 by_cases e:a.length=b.length
 . rw [if_pos e] at h; rw [if_pos e.symm]; exact Y9k e h
 . rw [if_neg e] at h; rw [if_neg (Ne.symm e)]; simp only [decide_eq_true_eq,decide_eq_false_iff_not] at h ⊢; exact .inr (by omega)
def Asc (l:List (List Int)):Prop:=l.Pairwise fun a b=>Q2a a b=true
theorem J4r {l m:List (List Int)} (hl:Asc l) (hm:Asc m) (h:∀ x,x ∈ l ↔ x ∈ m):l=m :=
 Y5u Q7l Y8n hl hm h
theorem posB (h:List Int) (out:List (List Int)):∀ n,Q1v h out n <= n /\ (∀ i,Q1v h out n <= i -> i < n -> Q2a h (out.getD i [])=true) /\
    (0 < Q1v h out n -> Q2a h (out.getD (Q1v h out n - 1) [])=false)
 | 0=>⟨Nat.le_refl _,fun i _ h=>absurd h (Nat.not_lt_zero _),fun h=>absurd h (Nat.lt_irrefl _)⟩
 | n + 1=>by
   obtain ⟨h1,h2,h3⟩:=posB h out n;unfold Q1v
   by_cases e:Q2a h (out.getD n [])=true
   . rw [if_pos e]
     refine ⟨by omega,fun i hi hn=>?_,h3⟩
     by_cases hin:i=n
     . subst hin; exact e
     . exact h2 i hi (by omega)
   . rw [if_neg e]
     exact ⟨Nat.le_refl _,fun i hi hn=>by omega,fun _=>by simpa using e⟩
theorem row_mem (h:List Int) (row:List (List Int)) (x:List Int):x ∈ Q6r h row ↔ x=h ∨ x ∈ row:=by
 unfold Q6r;obtain ⟨h1,-,-⟩:=posB h row row.length
 by_cases e:0 < Q1v h row row.length /\ row.getD (Q1v h row row.length - 1) []=h
 . dsimp only; rw [if_pos e]
   refine ⟨.inr,fun k=>k.elim (fun k=>?_) id⟩;subst k;have hlt:Q1v x row row.length - 1 < row.length:=by omega
   rw [List.getD_eq_getElem?_getD,List.getElem?_eq_getElem hlt,Option.getD_some] at e;exact e.2 ▸ List.getElem_mem hlt
 . dsimp only; rw [if_neg e]
   have hx:x ∈ row ↔ x ∈ row.take (Q1v h row row.length) ∨ x ∈ row.drop (Q1v h row row.length):=by
    rw [<- List.mem_append,List.take_append_drop]
   simp only [List.mem_append,List.mem_singleton,hx]
   constructor
   . rintro ((k | k) | k)
     . exact .inr (.inl k)
     . exact .inl k
     . exact .inr (.inr k)
   . rintro (k | k | k)
     . exact .inl (.inr k)
     . exact .inl (.inl k)
     . exact .inr k
theorem J4a (h:List Int) {row:List (List Int)} (ha:Asc row):Asc (Q6r h row):=by
 unfold Q6r;obtain ⟨h1,h2,h3⟩:=posB h row row.length
 by_cases e:0 < Q1v h row row.length /\ row.getD (Q1v h row row.length - 1) []=h
 . dsimp only; rw [if_pos e]; exact ha
 . dsimp only; rw [if_neg e]
   generalize Q1v h row row.length=k at *;have hi:∀ i j (hi:i < row.length) (hj:j < row.length),i < j -> Q2a row[i] row[j]=true:=fun i j hi hj hij=>List.pairwise_iff_getElem.1 ha i j hi hj hij;have hd:∀ x ∈ row.drop k,Q2a h x=true:=by
    intro x hx;obtain ⟨i,hi,rfl⟩:=List.mem_iff_getElem.1 hx;rw [List.length_drop] at hi;rw [List.getElem_drop];have:=h2 (k + i) (by omega) (by omega)
    rwa [List.getD_eq_getElem?_getD,List.getElem?_eq_getElem (by omega),Option.getD_some] at this
   have ht:∀ x ∈ row.take k,Q2a x h=true:=by
    intro x hx;obtain ⟨i,hi',rfl⟩:=List.mem_iff_getElem.1 hx;rw [List.length_take] at hi';rw [List.getElem_take];have hk:0 < k:=by omega
    have h4:=h3 hk;have hlt:k - 1 < row.length:=by omega
    rw [List.getD_eq_getElem?_getD,List.getElem?_eq_getElem hlt,Option.getD_some] at h4 e;have h5:Q2a row[k - 1] h=true:=by
     rcases X9k h4 with r | r
     . exact absurd ⟨hk,r.symm⟩ e
     . exact r
    by_cases hik:i=k - 1
    . subst hik; exact h5
    . exact Q6f (hi i (k - 1) (by omega) hlt (by omega)) h5
   refine List.pairwise_append.2 ⟨List.pairwise_append.2 ⟨List.Pairwise.sublist (List.take_sublist _ _) ha,List.pairwise_singleton _ _,fun a ha' b hb=>?_⟩,List.Pairwise.sublist (List.drop_sublist _ _) ha,fun a ha' b hb=>?_⟩
   . rw [List.mem_singleton] at hb; subst hb; exact ht a ha'
   . rcases List.mem_append.1 ha' with r | r
     . exact Q6f (ht a r) (hd b hb)
     . rw [List.mem_singleton] at r; subst r; exact hd b hb
namespace Q0b
variable {s:Q0b}
theorem Y7m (t:Nat):∀ i,Asc (s.Q5p t i)
 | 0=>List.Pairwise.nil
 | i + 1=>J4a _ (Y7m t i)
theorem X3q (t:Nat) (x:List Int):∀ i,x ∈ s.Q5p t i ↔ ∃ k,k < i /\ x=(Q0c s.members k).take (t + 1)
 | 0=>by simp [Q5p]
 | i + 1=>by
   rw [Q5p,row_mem,X3q t x i]
   constructor
   . rintro (h | ⟨k,hk,h⟩)
     . exact ⟨i,Nat.lt_succ_self _,h⟩
     . exact ⟨k,by omega,h⟩
   . rintro ⟨k,hk,h⟩
     by_cases e:k=i
     . subst e; exact .inl h
     . exact .inr ⟨k,by omega,h⟩
theorem Q4h (x:List Int):∀ n,x ∈ s.Q5i n ↔ ∃ t,t < n /\ ∃ k,k < s.members.length /\ x=(Q0c s.members k).take (t + 1)
 | 0=>by simp [Q5i]
 | n + 1=>by
   rw [Q5i,List.mem_append,Q4h x n,X3q]
   constructor
   . rintro (⟨t,ht,h⟩ | h)
     . exact ⟨t,by omega,h⟩
     . exact ⟨n,Nat.lt_succ_self _,h⟩
   . rintro ⟨t,ht,h⟩
     by_cases e:t=n
     . subst e; exact .inr h
     . exact .inl ⟨t,by omega,h⟩
def Shaped (s:Q0b):Prop:=∀ k,k < s.members.length -> (Q0c s.members k).length=s.ships.length /\ (Q0z s.members k).length=s.ships.length /\ (Q1f s.members k).length=s.ships.length
theorem Y2l (hs:s.Shaped):∀ n,n <= s.ships.length -> Asc (s.Q5i n)
 | 0,_=>List.Pairwise.nil
 | n + 1,hn=>by
   refine List.pairwise_append.2 ⟨Y2l hs n (by omega),Y7m n _,fun a ha b hb=>?_⟩
   obtain ⟨t,ht,k,hk,rfl⟩:=(Q4h a n).1 ha;obtain ⟨j,hj,rfl⟩:=(X3q n b _).1 hb;have h1:=(hs k hk).1;have h2:=(hs j hj).1;unfold Q2a;rw [if_neg (by simp only [List.length_take]; omega)]
   simp only [List.length_take,decide_eq_true_eq]; omega
theorem Y3z (hs:s.Shaped):Asc s.hist:=Y2l hs _ (Nat.le_refl _)
theorem J3u (hs:s.Shaped) (x:List Int):x ∈ s.X9h ↔ x ∈ s.hist:=by
 rw [hist,Q4h,X9h,List.mem_flatMap]
 constructor
 . rintro ⟨m,hm,h⟩
   obtain ⟨t,ht,rfl⟩:=List.mem_map.1 h;rw [List.mem_range] at ht;obtain ⟨k,hk,rfl⟩:=List.mem_iff_getElem.1 hm;have e:Q0c s.members k=s.members[k].classes:=by rw [Q0c,Q0t _ hk]
   exact ⟨t,by rw [<- (hs k hk).1,e]; exact ht,k,hk,by rw [e]⟩
 . rintro ⟨t,ht,k,hk,rfl⟩
   have e:Q0c s.members k=s.members[k].classes:=by rw [Q0c,Q0t _ hk]
   refine ⟨s.members[k],List.getElem_mem hk,List.mem_map.2 ⟨t,?_,by rw [e]⟩⟩
   rw [List.mem_range,<- e,(hs k hk).1]; exact ht
theorem J2w (hs:s.Shaped) {l:List (List Int)} (hl:Asc l) (h:∀ x,x ∈ l ↔ x ∈ s.X9h):l=s.hist :=
 J4r hl (Y3z hs) fun x=>(h x).trans (J3u hs x)
end Q0b
end Go.Tw
namespace Go.Tw
theorem Q9w {x o:Plan}:x.Q4w o=true ↔ o.weight <= x.weight /\ x.closings <= o.closings /\ x.delay <= o.delay:=by
 unfold Plan.Q4w; simp only [Bool.and_eq_true,decide_eq_true_eq,and_assoc]
theorem X0l (x:Plan):x.Q4w x=true:=Q9w.2 ⟨Int.le_refl _,Int.le_refl _,Int.le_refl _⟩
theorem Z1w {x y z:Plan} (h:x.Q4w y=true) (k:y.Q4w z=true):x.Q4w z=true:=by
 rw [Q9w] at *; omega
theorem Y4b {out:List Plan} {x y:Plan} (h:y ∈ Q2f out x):y ∈ out ∨ y=x:=by
 unfold Q2f at h
 split at h
 . exact .inl h
 . rcases List.mem_append.1 h with r | r
   . exact .inl (List.mem_filter.1 r).1
   . exact .inr (List.mem_singleton.1 r)
theorem X8j {out:List Plan} {x y:Plan} (h:y ∈ out ∨ y=x):∃ o ∈ Q2f out x,o.Q4w y=true:=by
 unfold Q2f
 split
 . rename_i he
   rcases h with h | h
   . exact ⟨y,h,X0l y⟩
   . subst h
     obtain ⟨o,ho,hb⟩:=List.any_eq_true.1 he;exact ⟨o,ho,hb⟩
 . rcases h with h | h
   . by_cases hb:x.Q4w y=true
     . exact ⟨x,List.mem_append.2 (.inr (List.mem_singleton.2 rfl)),hb⟩
     . exact ⟨y,List.mem_append.2 (.inl (List.mem_filter.2 ⟨h,by simp [hb]⟩)),X0l y⟩
   . subst h; exact ⟨y,List.mem_append.2 (.inr (List.mem_singleton.2 rfl)),X0l y⟩
theorem X2n:∀ {l out:List Plan} {y:Plan},y ∈ l.foldl Q2f out -> y ∈ out ∨ y ∈ l
 | [],_,_,h=>.inl h
 | x :: l,out,y,h=>by
   rcases X2n (l:=l) h with r | r
   . rcases Y4b r with r | r
     . exact .inl r
     . exact .inr (r ▸ List.mem_cons_self)
   . exact .inr (List.mem_cons_of_mem _ r)
theorem Q6p:∀ {l out:List Plan} {y:Plan},y ∈ out ∨ y ∈ l -> ∃ o ∈ l.foldl Q2f out,o.Q4w y=true
 | [],_,y,h=>⟨y,h.elim id (fun h=>absurd h (by simp)),X0l y⟩
 | x :: l,out,y,h=>by
   have h':(y ∈ out ∨ y=x) ∨ y ∈ l:=by
    rcases h with h | h
    . exact .inl (.inl h)
    . rcases List.mem_cons.1 h with h | h
      . exact .inl (.inr h)
      . exact .inr h
   rcases h' with h' | h'
   . obtain ⟨o,ho,hb⟩:=X8j h'
     obtain ⟨o',ho',hb'⟩:=Q6p (l:=l) (out:=Q2f out x) (.inl ho);exact ⟨o',ho',Z1w hb' hb⟩
   . exact Q6p (l:=l) (out:=Q2f out x) (.inr h')
theorem X8i {l:List Plan} {y:Plan} (h:y ∈ X8z l):y ∈ l:=(X2n h).elim (fun h=>absurd h (by simp)) id
theorem X2b {l:List Plan} {y:Plan} (h:y ∈ l):∃ o ∈ X8z l,o.Q4w y=true:=Q6p (.inr h)
theorem X6r {a b:List Plan} {y:Plan} (h:y ∈ together a b):∃ x ∈ a,∃ z ∈ b,y=both x z:=by
 obtain ⟨x,hx,hy⟩:=List.mem_flatMap.1 (X8i h);obtain ⟨z,hz,e⟩:=List.mem_map.1 hy;exact ⟨x,hx,z,hz,e.symm⟩
theorem Y1q {a b:List Plan} {x z:Plan} (hx:x ∈ a) (hz:z ∈ b):∃ o ∈ together a b,o.Q4w (both x z)=true :=
 X2b (List.mem_flatMap.2 ⟨x,hx,List.mem_map.2 ⟨z,hz,rfl⟩⟩)
def Digits (l:List Int):Prop:=∀ x ∈ l,0 <= x /\ x <= 9
theorem Z2m:∀ {a b:List Int},Digits a -> Digits b -> Q6q a=Q6q b -> a=b:=by
 have go:∀ {a b:List Int},Digits a -> Digits b -> (a.map fun n=>UInt8.ofNat n.toNat)=(b.map fun n=>UInt8.ofNat n.toNat) -> a=b:=by
  intro a
  induction a with
  | nil=>intro b _ _ h; cases b with | nil=>rfl | cons y b=>simp at h
  | cons x a ih =>
    intro b ha hb h;cases b with
    | nil=>simp at h
    | cons y b =>
      simp only [List.map_cons,List.cons.injEq] at h;have h1:=congrArg UInt8.toNat h.1;simp only [UInt8.toNat_ofNat'] at h1;obtain ⟨x0,x1⟩:=ha x List.mem_cons_self;obtain ⟨y0,y1⟩:=hb y List.mem_cons_self;rw [ih (fun z hz=>ha z (List.mem_cons_of_mem _ hz)) (fun z hz=>hb z (List.mem_cons_of_mem _ hz)) h.2]
      congr 1
      omega
 intro a b ha hb h;have:=congrArg (fun k:ByteArray=>k.data.toList) h;exact go ha hb (by simpa [Q6q] using this)
theorem Q5n {l:List Int} (h:Digits l) (n:Nat):Digits (l.take n):=fun x hx=>h x (List.mem_of_mem_take hx)
structure Fine (s:Q0b):Prop where
 shaped:s.Shaped
 digits:∀ k,k < s.members.length -> Digits (Q0c s.members k)
def mv1 (s:Q0b) (t:Nat) (c:Bool) (x:Runner):Runner:=⟨x.member,((Q1q s x.member).stepT t x.level c).2,x.dry && decide (((Q1q s x.member).stepT t x.level c).1 <= s.limit)⟩
theorem Y5c (s:Q0b) (t:Nat) (c:Bool) (l:List Runner):moved s t c l=l.map (mv1 s t c):=rfl
def hs (s:Q0b) (i u:Nat):List Int:=(Q0c s.members i).take u
def J4m (s:Q0b) (f:List Int -> Bool):Nat -> Runner -> Bool
 | 0,x=>x.dry
 | k + 1,x=>J4m s f k (mv1 s (s.ships.length - (k + 1)) (f (hs s x.member (s.ships.length - k))) x)
def J3n (s:Q0b) (f:List Int -> Bool):Nat -> Nat -> Int
 | 0,_=>0
 | k + 1,i=>(if f (hs s i (s.ships.length - k)) then 1 else 0) + J3n s f k i
def J3v (s:Q0b) (f:List Int -> Bool):Nat -> Nat -> Int
 | 0,_=>0
 | k + 1,i=>(if f (hs s i (s.ships.length - k)) then ix s.ships (s.ships.length - (k + 1)) else 0) + J3v s f k i
def Z4i (s:Q0b) (f:List Int -> Bool) (k:Nat) (l:List Runner):Int:=(l.map fun x=>if J4m s f k x then Q0k s.members x.member else 0).sum
def Z1e (s:Q0b) (f:List Int -> Bool) (k:Nat) (l:List Runner):Int:=(l.map fun x=>Q0k s.members x.member * J3n s f k x.member).sum
def Z0x (s:Q0b) (f:List Int -> Bool) (k:Nat) (l:List Runner):Int:=(l.map fun x=>Q0k s.members x.member * J3v s f k x.member).sum
def Agr (s:Q0b) (f:List Int -> Bool) (cl:List ByteArray) (t:Nat) (l:List Runner):Prop:=∀ r ∈ l,∀ u,t < u -> u <= s.ships.length -> f (hs s r.member u)=cl.contains (Q6q (hs s r.member u))
def Keys (s:Q0b) (cl:List ByteArray) (t:Nat) (l:List Runner):Prop:=∀ b ∈ cl,∃ r ∈ l,∃ u,t < u /\ u <= s.ships.length /\ b=Q6q (hs s r.member u)
def Known (s:Q0b) (l:List Runner):Prop:=∀ r ∈ l,r.member < s.members.length
end Go.Tw
