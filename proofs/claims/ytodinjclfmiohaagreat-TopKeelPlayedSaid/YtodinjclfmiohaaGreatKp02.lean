/- Contract of isName: a name by its bytes. Contracts of the reference: IsName, CheckName, HasWord, checkGate. What the functions of chapter 5 come to, in plain lists and numbers: no program is in sight here. Plain law: any list that ascends strictly and has just the histories of the members is the reference's list of histories. Plain law: the program's plans are policies, and no policy does better than all of them. What a season without an error is like. Contract of the reference: checkAll. Contracts of the reference: SameInts, SameBools. Contracts of the reference: before, count, dry. Contract of the reference: dry. Contract of the reference: Weight. Contract of the reference: checkMember. Contract of the reference: CheckSeason. Contracts of the program: mapped errors of numbers; ContainsFunc over members (CheckSeason's closure). Plain law: each plan is what the policy of its closed histories comes to, and no policy does better than all plans. Plain law: the greatest weight and the best cost over the plans are those over all policies by their codes. Plain law: what PolicyBest says of the greatest weight, the best cost and the groups. Contract of the reference: Follow. Contracts: a member's step, its Q2y, keeps. Worlds that differ from an earlier one in one block alone; slices of structs appended to in such a world. A whole load of a block inside a drawn region. Contracts of the basin: barrier, over, and the flows of the other kinds. Steps and runs of a basin, plain: a run with greater volumes, tides and inflows is greater; the latest closing is safe for each permitted run. No program in sight. The basin as plain lists, and what a value reads as. No program in sight but the types' marks. A step of the basin on lists, as the program makes it; its bounds, and that it is Go.Ba's step. No program in sight. Contract of the basin: the addition within a step (a closure over the volumes and whether all is fine). Maps with string keys that a call makes, as lists of pairs: look-ups and stores. Contract of the basin: the table of kinds (a map of structs that hold functions). Bounds of the volumes within a step. No program in sight. -/
import Derived.Test.YtodinjclfmiohaaGreatKp01
import Derived.Shelf.Abstract
import Derived.Maps.OwnSet
import Derived.MapKept
set_option maxRecDepth 1000000
set_option maxHeartbeats 64000000
set_option linter.unusedVariables false
set_option linter.unusedSimpArgs false
set_option linter.constructorNameAsVariable false
namespace Go.Proofs
open Go.RowKit Go.Tw
def Q0y (first:Bool):List UInt8 -> Bool
 | []=>true
 | c :: l=>(Q1j c || (!first && Q2z c)) && Q0y false l
theorem X1o:∀ l:List UInt8,Q0y false l = l.all fun c=>Q1j c || Q2z c
 | []=>rfl
 | c :: l=>by simp [Q0y,X1o l]
theorem Q1h (s:ByteArray):nameB s = (Q0y true s.data.toList && (decide (s.data.toList ≠ []) && decide (s.data.toList.length <= 24))):=by
 unfold nameB;cases s.data.toList with
 | nil=>rfl
 | cons c l =>
   simp only [Q0y,X1o,Bool.not_true,Bool.false_and,Bool.or_false,List.length_cons];rw [show decide (c :: l ≠ []) = true from by simp,Bool.true_and]
   congr 1
theorem Y4n (s:ByteArray) (pos:Nat) (h:pos < s.size):s.data.toList.drop pos = s[pos]'h :: s.data.toList.drop (pos + 1):=by
 have h':pos < s.data.toList.length:=by simpa using h
 rw [List.drop_eq_getElem_cons h'];rfl
theorem X7a (c:UInt8):Q1j c = (decide (97 <= c.toNat /\ c.toNat <= 122) || decide (65 <= c.toNat /\ c.toNat <= 90)):=by
 unfold Q1j;simp only [UInt8.le_iff_toNat_le];simp
theorem X9y (c:UInt8):Q2z c = (decide (c.toNat = 95) || decide (48 <= c.toNat /\ c.toNat <= 57)):=by
 unfold Q2z;simp only [UInt8.le_iff_toNat_le];rw [show (c == 95) = decide (c.toNat = 95) from by rw [show (c == 95) = decide (c = 95) from rfl]; exact decide_eq_decide.2 ⟨fun h=>by subst h; rfl,fun h=>UInt8.toNat_inj.1 h⟩]
 simp
theorem Z3q (s:ByteArray) (pos:Nat) (h:pos < s.size):∃ n d,Utf8.decode s pos = (n,d) /\ 1 <= d /\ (n < 128 -> n = (s[pos]'h).toNat /\ d = 1) /\ (128 <= n -> 128 <= (s[pos]'h).toNat):=by
 by_cases ha:(s[pos]'h).toNat < 128
 . exact ⟨_,_,decode_ascii s pos h ha,Nat.le_refl _,fun _=>⟨rfl,rfl⟩,fun h'=>h'⟩
 . have:=decode_high s pos h (by omega)
   obtain ⟨n,d,hnd⟩:∃ n d,Utf8.decode s pos = (n,d):=⟨_,_,rfl⟩;rw [hnd] at this;exact ⟨n,d,hnd,this.2,fun h'=>by have:=this.1; omega,fun _=>by omega⟩
theorem Y4a {s:ByteArray} (h:s.toList = []):s.data.toList = []:=by rw [toList_nil_iff_emptyBytes] at h; subst h; rfl
theorem Y7x {s:ByteArray} (h:¬ s.toList = []):s.data.toList ≠ []:=fun e=>h (by
 rw [toList_nil_iff_emptyBytes];obtain ⟨⟨l⟩⟩:=s;simp only at e;subst e; rfl)
theorem X6o (w:World) (s:ByteArray) (hs:Short s) :
    Calls Tryz.prog 105 #[.string s] w fun e w'=>e = .returned (.bool (nameB s)) /\ Ext w w':=by
 unfold Short at hs;go_enter Tryz.func105,Tryz.ntmps105;go_wp2
 go_loopw [9] (fun _ w'=>∃ pos:Nat,w' = w.iter s pos /\ Q0y (pos == 0) (s.data.toList.drop pos) = Q0y true s.data.toList) (fun _ w'=>s.size - w'.iterPos w.heap.size)
 case atStart=>exact ⟨0,rfl,rfl⟩
 case round =>
  obtain ⟨pos,rfl,hc⟩:=hrel;have HC:=Lib.hid hc; clear hc
  by_cases hp:pos < s.size
  . obtain ⟨n,d,hd,hd1,hn1,hn2⟩:=Z3q s pos hp
    have hnx:∀ ty,(Instr.next (.pointer (some ⟨w.heap.size,0,none⟩)) true ty).run Tryz.prog (w.iter s pos) = .ok (.tuple #[.bool true,.int .i64 pos,.int .i32 n]) (w.iter s (pos + d)):=fun ty=>by
     rw [run_next_any w s pos ty hp,hd]
    have HB:=Lib.hid (Y4n s pos hp);have HL:=Lib.hid (X7a (s[pos]'hp));have HO:=Lib.hid (X9y (s[pos]'hp));obtain ⟨c,hcc⟩:∃ c,s[pos]'hp = c:=⟨_,rfl⟩;rw [hcc] at hn1 hn2 HB HL HO;have HN1:=Lib.hid hn1;have HN2:=Lib.hid hn2;clear hcc hd hn1 hn2;have hcl:(65 <= n /\ n <= 90) ∨ (97 <= n /\ n <= 122) ∨ (48 <= n /\ n <= 57) ∨ n = 95 ∨ n < 48 ∨ (58 <= n /\ n < 65) ∨ (91 <= n /\ n < 97 /\ n ≠ 95) ∨ 123 <= n:=by omega
    obtain ⟨N,hN⟩:∃ N:Int,(n:Int) = N:=⟨_,rfl⟩;rw [hN] at hnx
    rcases hcl with hcl | hcl | hcl | hcl | hcl | hcl | hcl | hcl
    . have f0:65 <= N:=by omega
      have f1:N <= 90:=by omega
      have HX:Hid (Q1j c = true):=by
       exact (by rw [HL.out,<- (HN1.out (by omega)).1]; simp; omega:Q1j c = true)
      have HD:Hid (d = 1):=by exact (HN1.out (by omega)).2
      clear hcl hN;go_wp2;go_roundw
      case rel=>exact ⟨pos + d,rfl,by rw [<- HC.out,HB.out,HD.out]; simp [Q0y,HX.out]⟩
      case measure=>simp; omega
    . have f0:65 <= N:=by omega
      have f1:¬ N <= 90:=by omega
      have f2:97 <= N:=by omega
      have f3:N <= 122:=by omega
      have HX:Hid (Q1j c = true):=by
       exact (by rw [HL.out,<- (HN1.out (by omega)).1]; simp; omega:Q1j c = true)
      have HD:Hid (d = 1):=by exact (HN1.out (by omega)).2
      clear hcl hN;go_wp2;go_roundw
      case rel=>exact ⟨pos + d,rfl,by rw [<- HC.out,HB.out,HD.out]; simp [Q0y,HX.out]⟩
      case measure=>simp; omega
    . have f0:¬ 65 <= N:=by omega
      have f1:¬ 97 <= N:=by omega
      have f2:48 <= N:=by omega
      have f3:N <= 57:=by omega
      have HX:Hid (Q1j c = false /\ Q2z c = true):=by
       exact (by rw [HL.out,HO.out,<- (HN1.out (by omega)).1]; simp; omega:Q1j c = false /\ Q2z c = true)
      have HD:Hid (d = 1):=by exact (HN1.out (by omega)).2
      clear hcl hN
      by_cases h0:pos = 0
      . subst h0
        go_wp2;go_ret;exact ⟨Q0w (by rw [Q1h,<- HC.out,HB.out]; simp [Q0y,HX.out.1]),Ext.box _ _⟩
      . have h0':(((pos:Nat):Int) == 0) = false:=by rw [beq_eq_false_iff_ne]; omega
        have HP:=Lib.hid h0; clear h0;go_wp2;go_roundw
        case rel=>exact ⟨pos + d,rfl,by rw [<- HC.out,HB.out,HD.out]; simp [Q0y,HX.out.1,HX.out.2,HP.out]⟩
        case measure=>simp; omega
    . have f0:65 <= N:=by omega
      have f1:¬ N <= 90:=by omega
      have f2:¬ 97 <= N:=by omega
      have f3:48 <= N:=by omega
      have f4:¬ N <= 57:=by omega
      have f5:(N == 95) = true:=by rw [beq_iff_eq]; omega
      have HX:Hid (Q1j c = false /\ Q2z c = true):=by
       exact (by rw [HL.out,HO.out,<- (HN1.out (by omega)).1]; simp; omega:Q1j c = false /\ Q2z c = true)
      have HD:Hid (d = 1):=by exact (HN1.out (by omega)).2
      clear hcl hN
      by_cases h0:pos = 0
      . subst h0
        go_wp2;go_ret;exact ⟨Q0w (by rw [Q1h,<- HC.out,HB.out]; simp [Q0y,HX.out.1]),Ext.box _ _⟩
      . have h0':(((pos:Nat):Int) == 0) = false:=by rw [beq_eq_false_iff_ne]; omega
        have HP:=Lib.hid h0; clear h0;go_wp2;go_roundw
        case rel=>exact ⟨pos + d,rfl,by rw [<- HC.out,HB.out,HD.out]; simp [Q0y,HX.out.1,HX.out.2,HP.out]⟩
        case measure=>simp; omega
    . have f0:¬ 65 <= N:=by omega
      have f1:¬ 97 <= N:=by omega
      have f2:¬ 48 <= N:=by omega
      have f3:(N == 95) = false:=by rw [beq_eq_false_iff_ne]; omega
      have HX:Hid (Q1j c = false /\ Q2z c = false):=by
       exact (by
        rcases Nat.lt_or_ge n 128 with h | h
        . rw [HL.out,HO.out,<- (HN1.out h).1]; simp; omega
        . have:=HN2.out h
          rw [HL.out,HO.out]; simp; omega:Q1j c = false /\ Q2z c = false)
      clear hcl hN
      by_cases h0:pos = 0
      . subst h0
        go_wp2;go_ret;exact ⟨Q0w (by rw [Q1h,<- HC.out,HB.out]; simp [Q0y,HX.out.1]),Ext.box _ _⟩
      . have h0':(((pos:Nat):Int) == 0) = false:=by rw [beq_eq_false_iff_ne]; omega
        have HP:=Lib.hid h0; clear h0;go_wp2;go_ret;exact ⟨Q0w (by rw [Q1h,<- HC.out,HB.out]; simp [Q0y,HX.out.1,HX.out.2]),Ext.box _ _⟩
    . have f0:¬ 65 <= N:=by omega
      have f1:¬ 97 <= N:=by omega
      have f2:48 <= N:=by omega
      have f3:¬ N <= 57:=by omega
      have f4:(N == 95) = false:=by rw [beq_eq_false_iff_ne]; omega
      have HX:Hid (Q1j c = false /\ Q2z c = false):=by
       exact (by
        rcases Nat.lt_or_ge n 128 with h | h
        . rw [HL.out,HO.out,<- (HN1.out h).1]; simp; omega
        . have:=HN2.out h
          rw [HL.out,HO.out]; simp; omega:Q1j c = false /\ Q2z c = false)
      clear hcl hN
      by_cases h0:pos = 0
      . subst h0
        go_wp2;go_ret;exact ⟨Q0w (by rw [Q1h,<- HC.out,HB.out]; simp [Q0y,HX.out.1]),Ext.box _ _⟩
      . have h0':(((pos:Nat):Int) == 0) = false:=by rw [beq_eq_false_iff_ne]; omega
        have HP:=Lib.hid h0; clear h0;go_wp2;go_ret;exact ⟨Q0w (by rw [Q1h,<- HC.out,HB.out]; simp [Q0y,HX.out.1,HX.out.2]),Ext.box _ _⟩
    . have f0:65 <= N:=by omega
      have f1:¬ N <= 90:=by omega
      have f2:¬ 97 <= N:=by omega
      have f3:48 <= N:=by omega
      have f4:¬ N <= 57:=by omega
      have f5:(N == 95) = false:=by rw [beq_eq_false_iff_ne]; omega
      have HX:Hid (Q1j c = false /\ Q2z c = false):=by
       exact (by
        rcases Nat.lt_or_ge n 128 with h | h
        . rw [HL.out,HO.out,<- (HN1.out h).1]; simp; omega
        . have:=HN2.out h
          rw [HL.out,HO.out]; simp; omega:Q1j c = false /\ Q2z c = false)
      clear hcl hN
      by_cases h0:pos = 0
      . subst h0
        go_wp2;go_ret;exact ⟨Q0w (by rw [Q1h,<- HC.out,HB.out]; simp [Q0y,HX.out.1]),Ext.box _ _⟩
      . have h0':(((pos:Nat):Int) == 0) = false:=by rw [beq_eq_false_iff_ne]; omega
        have HP:=Lib.hid h0; clear h0;go_wp2;go_ret;exact ⟨Q0w (by rw [Q1h,<- HC.out,HB.out]; simp [Q0y,HX.out.1,HX.out.2]),Ext.box _ _⟩
    . have f0:65 <= N:=by omega
      have f1:¬ N <= 90:=by omega
      have f2:97 <= N:=by omega
      have f3:¬ N <= 122:=by omega
      have f4:48 <= N:=by omega
      have f5:¬ N <= 57:=by omega
      have f6:(N == 95) = false:=by rw [beq_eq_false_iff_ne]; omega
      have HX:Hid (Q1j c = false /\ Q2z c = false):=by
       exact (by
        rcases Nat.lt_or_ge n 128 with h | h
        . rw [HL.out,HO.out,<- (HN1.out h).1]; simp; omega
        . have:=HN2.out h
          rw [HL.out,HO.out]; simp; omega:Q1j c = false /\ Q2z c = false)
      clear hcl hN
      by_cases h0:pos = 0
      . subst h0
        go_wp2;go_ret;exact ⟨Q0w (by rw [Q1h,<- HC.out,HB.out]; simp [Q0y,HX.out.1]),Ext.box _ _⟩
      . have h0':(((pos:Nat):Int) == 0) = false:=by rw [beq_eq_false_iff_ne]; omega
        have HP:=Lib.hid h0; clear h0;go_wp2;go_ret;exact ⟨Q0w (by rw [Q1h,<- HC.out,HB.out]; simp [Q0y,HX.out.1,HX.out.2]),Ext.box _ _⟩
  . have hnx:∀ ty,(Instr.next (.pointer (some ⟨w.heap.size,0,none⟩)) true ty).run Tryz.prog (w.iter s pos) = _:=fun ty=>run_next_end w s pos ty hp
    have HF:Hid (Q0y true s.data.toList = true):=by
     exact (by rw [<- HC.out,List.drop_eq_nil_of_le (by simpa using hp)]; rfl:Q0y true s.data.toList = true)
    have hsz:s.data.toList.length = s.size:=by simp
    have HS:=Lib.hid hsz;clear hsz hp
    by_cases h24:(s.size:Int) <= 24
    . have H24:=Lib.hid h24
      go_wp2
      . have he:s.toList = []:=by assumption
        go_ret;exact ⟨Q0w (by rw [Q1h,HF.out,Y4a he]; rfl),Ext.box _ _⟩
      . have he:¬ s.toList = []:=by assumption
        go_ret;exact ⟨Q0w (by have:=HS.out; have:=H24.out; rw [Q1h,HF.out,Bool.true_and,decide_eq_true (Y7x he),Bool.true_and]; rw [decide_eq_true (by omega:s.data.toList.length <= 24)]; simp [he]),Ext.box _ _⟩
    . have H24:=Lib.hid h24
      go_wp2
      . have he:s.toList = []:=by assumption
        go_ret;exact ⟨Q0w (by rw [Q1h,HF.out,Y4a he]; rfl),Ext.box _ _⟩
      . have he:¬ s.toList = []:=by assumption
        go_ret;exact ⟨Q0w (by have:=HS.out; have:=H24.out; rw [Q1h,HF.out,Bool.true_and,decide_eq_true (Y7x he),Bool.true_and]; exact (decide_eq_false (by omega)).symm),Ext.box _ _⟩
end Go.Proofs
namespace Go.Proofs
open Go.RowKit Go.Tw Go.Flow
theorem Y4z (w:World) (s:ByteArray) (hs:Short s) :
    Calls Tryz.prog 88 #[.string s] w fun e w'=>e = .returned (.bool (nameB s)) /\ w = w':=by
 unfold Short at hs;have hsz:s.data.toList.length = s.size:=by simp
 by_cases hz:s.size = 0
 . have HR:Hid (nameB s = false):=by
    rw [Q1h];have:s.data.toList = []:=List.length_eq_zero_iff.1 (by omega)
    rw [this]; exact rfl
   have hz':((s.size:Int) == 0) = true:=by rw [beq_iff_eq]; omega
   clear hz hsz;go_enter Tryz.func88,Tryz.ntmps88;go_wp2;go_ret;exact ⟨Q0w HR.out.symm,rfl⟩
 . have hz':((s.size:Int) == 0) = false:=by rw [beq_eq_false_iff_ne]; omega
   by_cases hb:24 < s.size
   . have HR:Hid (nameB s = false):=by
      rw [Q1h,show decide (s.data.toList.length <= 24) = false from decide_eq_false (by omega)]
      rw [Bool.and_false,Bool.and_false]; exact rfl
     have hb':(24:Int) < (s.size:Int):=by omega
     clear hz hsz;go_enter Tryz.func88,Tryz.ntmps88;go_wp2;go_ret;exact ⟨Q0w HR.out.symm,rfl⟩
   . have HR:Hid (nameB s = Q0y true s.data.toList):=by
      rw [Q1h,show decide (s.data.toList.length <= 24) = true from decide_eq_true (by omega),show decide (s.data.toList ≠ []) = true from decide_eq_true (fun e=>hz (by rw [<- hsz,e]; rfl))]
      rw [Bool.and_true,Bool.and_true]; exact rfl
     have HSZ:=Lib.hid hsz;have hb':¬ (24:Int) < (s.size:Int):=by omega
     clear hz hsz;go_enter Tryz.func88,Tryz.ntmps88;go_wp2
     go_loop [3] (fun i=>∃ k:Nat,k <= s.size /\ i = .int .i64 k /\ Q0y (k == 0) (s.data.toList.drop k) = Q0y true s.data.toList) (fun i=>s.size - (intOf i).toNat)
     case atStart=>exact ⟨0,Nat.zero_le _,rfl,rfl⟩
     case round =>
      obtain ⟨k,hk,rfl,hc⟩:=hrel;have HC:=Lib.hid hc; clear hc
      by_cases hlt:k < s.size
      . have HB:=Lib.hid (Y4n s k hlt)
        have HL:=Lib.hid (X7a (s[k]'hlt));have HO:=Lib.hid (X9y (s[k]'hlt));have hcl:(65 <= (s[k]'hlt).toNat /\ (s[k]'hlt).toNat <= 90) ∨ (97 <= (s[k]'hlt).toNat /\ (s[k]'hlt).toNat <= 122) ∨ (48 <= (s[k]'hlt).toNat /\ (s[k]'hlt).toNat <= 57) ∨ (s[k]'hlt).toNat = 95 ∨ (s[k]'hlt).toNat < 48 ∨ (58 <= (s[k]'hlt).toNat /\ (s[k]'hlt).toNat < 65) ∨ (91 <= (s[k]'hlt).toNat /\ (s[k]'hlt).toNat < 97 /\ (s[k]'hlt).toNat ≠ 95) ∨ 123 <= (s[k]'hlt).toNat:=by omega
        have hdef:((s[k]'hlt).toNat:Int) = 95 ∨ ¬ ((s[k]'hlt).toNat:Int) = 95:=by omega
        have go (b1 b2:Bool) (hl:Q1j (s[k]'hlt) = b1) (ho:Q2z (s[k]'hlt) = b2):Q0y (k == 0) (s.data.toList.drop k) = ((b1 || (!(k == 0) && b2)) && Q0y false (s.data.toList.drop (k + 1))):=by
         rw [HB.out,Q0y,hl,ho]
        have GO:=Lib.hid go;clear go
        rcases hcl with hcl | hcl | hcl | hcl | hcl | hcl | hcl | hcl
        case inl | inr.inl =>
         all_goals
          have HX:Hid (Q1j (s[k]'hlt) = true):=by
           exact (by rw [HL.out]; simp; omega:Q1j (s[k]'hlt) = true)
          have f0:decide (97 <= ((s[k]'hlt).toNat:Int)) = decide (97 <= (s[k]'hlt).toNat):=by rw [decide_eq_decide]; omega
          have f1:(65:Int) <= ((s[k]'hlt).toNat:Int):=by omega
          have f2:((s[k]'hlt).toNat:Int) <= 122:=by omega
          first | (have f3:((s[k]'hlt).toNat:Int) <= 90:=by omega) | (have f3:(97:Int) <= ((s[k]'hlt).toNat:Int):=by omega)
          first | (have f4:¬ (97:Int) <= ((s[k]'hlt).toNat:Int):=by omega) | skip
          clear hcl hdef f0;go_wp2;go_round
          case rel=>exact ⟨k + 1,by omega,by go_num,by rw [<- HC.out,GO.out _ _ HX.out rfl,Bool.true_or,Bool.true_and]; rfl⟩
          case measure=>simp [intOf]; omega
        case inr.inr.inl | inr.inr.inr.inl =>
         all_goals
          have HX:Hid (Q1j (s[k]'hlt) = false /\ Q2z (s[k]'hlt) = true):=by
           exact (by rw [HL.out,HO.out]; simp; omega:Q1j (s[k]'hlt) = false /\ Q2z (s[k]'hlt) = true)
          have f1:¬ (97:Int) <= ((s[k]'hlt).toNat:Int):=by omega
          first | (have f2:¬ (65:Int) <= ((s[k]'hlt).toNat:Int):=by omega) | (have f2:(65:Int) <= ((s[k]'hlt).toNat:Int):=by omega)
          have f3:(¬ ((s[k]'hlt).toNat:Int) <= 90) ∨ ((s[k]'hlt).toNat:Int) <= 90:=by omega
          first | (have f4:¬ ((s[k]'hlt).toNat:Int) <= 90:=by omega) | skip
          first | (have f5:(((s[k]'hlt).toNat:Int) != 95) = false:=by rw [bne_eq_false_iff_eq]; omega) | (have f5:(((s[k]'hlt).toNat:Int) != 95) = true:=by rw [bne_iff_ne]; omega)
          first | (have f6:¬ ((s[k]'hlt).toNat:Int) < 48:=by omega) | skip
          first | (have f7:¬ (57:Int) < ((s[k]'hlt).toNat:Int):=by omega) | skip
          clear hcl hdef f3
          by_cases h0:k = 0
          . subst h0
            go_wp2;go_ret;exact ⟨Q0w (by rw [HR.out,<- HC.out,GO.out _ _ HX.out.1 HX.out.2]; rfl),rfl⟩
          . have h0':(((k:Nat):Int) == 0) = false:=by rw [beq_eq_false_iff_ne]; omega
            have HK:Hid ((k == 0) = false):=Lib.hid (by rw [beq_eq_false_iff_ne]; omega)
            clear h0;go_wp2;go_round
            case rel=>exact ⟨k + 1,by omega,by go_num,by rw [<- HC.out,GO.out _ _ HX.out.1 HX.out.2,HK.out]; rfl⟩
            case measure=>simp [intOf]; omega
        all_goals
         have HX:Hid (Q1j (s[k]'hlt) = false /\ Q2z (s[k]'hlt) = false):=by
          exact (by rw [HL.out,HO.out]; simp; omega:Q1j (s[k]'hlt) = false /\ Q2z (s[k]'hlt) = false)
         first | (have f1:¬ (97:Int) <= ((s[k]'hlt).toNat:Int):=by omega) | (have f1:(97:Int) <= ((s[k]'hlt).toNat:Int):=by omega)
         first | (have f2:¬ (65:Int) <= ((s[k]'hlt).toNat:Int):=by omega) | (have f2:(65:Int) <= ((s[k]'hlt).toNat:Int):=by omega)
         first | (have f3:¬ ((s[k]'hlt).toNat:Int) <= 122:=by omega) | skip
         first | (have f4:¬ ((s[k]'hlt).toNat:Int) <= 90:=by omega) | skip
         have f5:(((s[k]'hlt).toNat:Int) != 95) = true:=by rw [bne_iff_ne]; omega
         first | (have f6:((s[k]'hlt).toNat:Int) < 48:=by omega) | (have f6:¬ ((s[k]'hlt).toNat:Int) < 48:=by omega)
         first | (have f7:(57:Int) < ((s[k]'hlt).toNat:Int):=by omega) | skip
         clear hcl hdef
         by_cases h0:k = 0
         . subst h0
           go_wp2;go_ret;exact ⟨Q0w (by rw [HR.out,<- HC.out,GO.out _ _ HX.out.1 HX.out.2]; rfl),rfl⟩
         . have h0':(((k:Nat):Int) == 0) = false:=by rw [beq_eq_false_iff_ne]; omega
           clear h0;go_wp2;go_ret;exact ⟨Q0w (by rw [HR.out,<- HC.out,GO.out _ _ HX.out.1 HX.out.2]; simp),rfl⟩
      . go_wp2
        go_ret;exact ⟨Q0w (by rw [HR.out,<- HC.out,List.drop_eq_nil_of_le (by rw [HSZ.out]; omega)]; rfl),rfl⟩
end Go.Proofs
namespace Go.Tw
def Q0k (l:List Int) (most:Int):Int:=Q0h (l.map fun x=>Q0e x 0 most)
def Q2p (l:List Mem) (i:Nat):Bool:=(List.range i).any fun k=>Q1g l k == Q1g l i
namespace Q0c
def Q2i (s:Q0c) (i:Nat):Int :=
 if nameB (Q1g s.members i) = false then 8 else if Q2p s.members i = true then 9 else if Q0e (Q1c s.members i) 1 1000 ≠ 0 then 3 else
 if ¬ ((Q0f s.members i).length = s.ships.length /\ (Q0n s.members i).length = s.ships.length /\ (Q0v s.members i).length = s.ships.length) then 2 else
 Q0h [Q0k (Q0f s.members i) 9,Q0k (Q0n s.members i) 1024,Q0k (Q0v s.members i) 1024]
def err (s:Q0c):Int :=
 if Q0e s.limit 0 1024 ≠ 0 then 3 else if s.ships.length = 0 then 12 else if 6 < s.ships.length then 5 else if Q0k s.ships 1000 ≠ 0 then 3 else
 if s.members.length = 0 then 12 else if 8 < s.members.length then 5 else Q0h ((List.range s.members.length).map s.Q2i)
end Q0c
def Q6m (h:List Int) (row:List (List Int)):List (List Int) :=
 let k:=Q1l h row row.length
 if 0 < k /\ row.getD (k - 1) [] = h then row else row.take k ++ [h] ++ row.drop k
namespace Q0c
def Q4s (s:Q0c) (t:Nat):Nat -> List (List Int)
 | 0=>[]
 | i + 1=>Q6m ((Q0f s.members i).take (t + 1)) (s.Q4s t i)
def Q4v (s:Q0c):Nat -> List (List Int)
 | 0=>[]
 | t + 1=>s.Q4v t ++ s.Q4s t s.members.length
def hist (s:Q0c):List (List Int):=s.Q4v s.ships.length
def X4u (s:Q0c):List (List Int):=s.members.flatMap fun m=>(List.range m.classes.length).map fun t=>m.classes.take (t + 1)
end Q0c
def Q0x (h:List (List Int)) (p:List Rul):Int:=if p.length ≠ h.length then 2 else if (p.map Rul.classes) ≠ h then 11 else 0
def Q2o (s:Q0c) (p:List Rul):Int:=if s.err ≠ 0 then s.err else Q0x s.hist p
def always (s:Q0c) (c:Bool):List Rul:=s.hist.map fun h=>⟨h,c⟩
def X8s (p:List Rul) (n:Nat):List Rul:=(List.range p.length).map fun i=>⟨Q0l p i,Q3d p i != (i == n)⟩
def look (p:List Rul) (h:List Int):Bool:=match p.find? (fun r=>r.classes == h) with | some r=>r.close | none=>false
def Q0u (p:List Rul) (l:List Int):List Bool:=(List.range l.length).map fun t=>look p (l.take (t + 1))
namespace Mem
def stepT (m:Mem) (t:Nat) (level:Int) (c:Bool):Int × Int:=if c then (level + ix m.inflow t,level + ix m.inflow t) else (ix m.outside t,0)
def Q3n (m:Mem):Nat -> Int -> List Bool -> List Int
 | _,_,[]=>[]
 | t,level,c :: r=>(m.stepT t level c).1 :: m.Q3n (t + 1) (m.stepT t level c).2 r
def Q2y (m:Mem) (l:List Bool):List Int:=m.Q3n 0 0 l
def keeps (m:Mem) (limit:Int) (l:List Bool):Bool:=!((m.Q2y l).any fun x=>decide (limit < x))
end Mem
def Q1z (s:Q0c) (i:Nat):Mem:=s.members.getD i default
def Q2h (s:Q0c) (p:List Rul):List Int :=
 ((List.range s.members.length).filter fun i=>(Q1z s i).keeps s.limit (Q0u p (Q1z s i).classes)).map Int.ofNat
def Y9d (s:Q0c) (l:List Int):Int:=(l.map fun i=>Q1c s.members i.toNat).sum
def countB (l:List Bool):Int:=(l.countP id:Nat)
def Z4k (s:Q0c) (l:List Bool):Int:=((List.range l.length).map fun t=>if l.getD t false then ix s.ships t else 0).sum
def Y0l (s:Q0c) (p:List Rul):Int:=(s.members.map fun m=>m.weight * countB (Q0u p m.classes)).sum
def Z4o (s:Q0c) (p:List Rul):Int:=(s.members.map fun m=>m.weight * Z4k s (Q0u p m.classes)).sum
def Y9e (n t:Nat):List Bool:=(List.range t).map fun i=>n.testBit (t - 1 - i)
namespace Mem
def Y1r (m:Mem) (limit:Int) (t:Nat):Nat -> Option (List Bool)
 | 0=>none
 | n + 1=>if m.keeps limit (Y9e n t) = true /\ (∀ b,m.Y1r limit t n = some b -> countB (Y9e n t) < countB b) then some (Y9e n t) else m.Y1r limit t n
def Z4h (m:Mem) (limit:Int) (t:Nat):Bool:=(List.range (2 ^ t)).any fun n=>m.keeps limit (Y9e n t)
end Mem
def alone (s:Q0c) (i:Nat):Option (List Bool):=(Q1z s i).Y1r s.limit s.ships.length (2 ^ s.ships.length)
def Z5h (s:Q0c) (i:Nat):Option Nat:=(List.range s.ships.length).find? fun t=>!(Q1z s i).Z4h s.limit (t + 1)
def Z5x (s:Q0c) (i:Nat):List Nat:=(List.range s.members.length).filter fun k=>Q0f s.members k == Q0f s.members i
def Z4p (s:Q0c) (l:List Nat) (n:Nat):Int:=(l.map fun k=>if (Q1z s k).keeps s.limit (Y9e n s.ships.length) then Q1c s.members k else 0).sum
def Z5j (s:Q0c) (l:List Nat):Int:=(List.range (2 ^ s.ships.length)).foldl (fun m n=>max m (Z4p s l n)) 0
structure Plan where
 weight:Int
 closings:Int
 delay:Int
 closed:List ByteArray
structure Runner where
 member:Nat
 level:Int
 dry:Bool
def Plan.Z2v (x o:Plan):Bool:=decide (o.weight <= x.weight) && decide (x.closings <= o.closings) && decide (x.delay <= o.delay)
def Y7w (out:List Plan) (x:Plan):List Plan:=if out.any (fun o=>o.Z2v x) then out else (out.filter fun o=>!x.Z2v o) ++ [x]
def Z6a (l:List Plan):List Plan:=l.foldl Y7w []
def both (x y:Plan):Plan:=⟨x.weight + y.weight,x.closings + y.closings,x.delay + y.delay,x.closed ++ y.closed⟩
def together (a b:List Plan):List Plan:=Z6a (a.flatMap fun x=>b.map (both x))
def X0s (l:List Int):ByteArray:=⟨(l.map fun n=>UInt8.ofNat n.toNat).toArray⟩
def moved (s:Q0c) (t:Nat) (c:Bool) (l:List Runner):List Runner :=
 l.map fun x=>⟨x.member,((Q1z s x.member).stepT t x.level c).2,x.dry && decide (((Q1z s x.member).stepT t x.level c).1 <= s.limit)⟩
def Y3h (s:Q0c) (l:List Runner):Int:=(l.map fun x=>Q1c s.members x.member).sum
def Z7s (s:Q0c) (l:List Runner):Int:=(l.map fun x=>if x.dry then Q1c s.members x.member else 0).sum
def Z7a (s:Q0c) (t c:Nat) (l:List Runner):List Runner:=l.filter fun x=>ix (Q0f s.members x.member) t == (c:Int)
def Z4l (s:Q0c) (t:Nat):List Runner -> ByteArray
 | []=>⟨#[]⟩
 | x :: _=>X0s ((Q0f s.members x.member).take (t + 1))
def Z2i (s:Q0c) (t:Nat) (l:List Runner) (x:Plan):Plan:=⟨x.weight,x.closings + Y3h s l,x.delay + Y3h s l * ix s.ships t,x.closed ++ [Z4l s t l]⟩
def Z3d (s:Q0c) (t:Nat) (sub:List Runner -> List Plan) (l:List Runner):List Plan :=
 Z6a (sub (moved s t false l) ++ (sub (moved s t true l)).map (Z2i s t l))
def Y3c (s:Q0c) (t:Nat) (sub:List Runner -> List Plan) (l:List Runner):Nat -> List Plan
 | 0=>[⟨0,0,0,[]⟩]
 | c + 1=>if Z7a s t c l = [] then Y3c s t sub l c else together (Y3c s t sub l c) (Z3d s t sub (Z7a s t c l))
def Z2g (s:Q0c):Nat -> List Runner -> List Plan
 | 0,l=>[⟨Z7s s l,0,0,[]⟩]
 | k + 1,l=>Y3c s (s.ships.length - (k + 1)) (Z2g s k) l 10
def Z4y (s:Q0c):List Plan:=Z2g s s.ships.length ((List.range s.members.length).map fun i=>⟨i,0,true⟩)
def Y9u (need:Int) (b:Option Plan) (x:Plan):Option Plan :=
 if x.weight < need then b else match b with
 | none=>some x
 | some o=>if x.closings < o.closings ∨ x.closings = o.closings /\ x.delay < o.delay then some x else b
def Z6t (s:Q0c) (need:Int):Option Plan:=(Z4y s).foldl (Y9u need) none
end Go.Tw
namespace Go.Tw
theorem Y0n {α:Type} {R:α -> α -> Prop} (irr:∀ a,¬ R a a) (asym:∀ a b,R a b -> ¬ R b a) :
    ∀ {l m:List α},l.Pairwise R -> m.Pairwise R -> (∀ x,x ∈ l ↔ x ∈ m) -> l = m
 | [],[],_,_,_=>rfl
 | [],b :: m,_,_,h=>absurd ((h b).2 List.mem_cons_self) (by simp)
 | a :: l,[],_,_,h=>absurd ((h a).1 List.mem_cons_self) (by simp)
 | a :: l,b :: m,hl,hm,h=>by
   obtain ⟨hl1,hl2⟩:=List.pairwise_cons.1 hl;obtain ⟨hm1,hm2⟩:=List.pairwise_cons.1 hm;have hab:a = b:=by
    rcases List.mem_cons.1 ((h a).1 List.mem_cons_self) with e | e
    . exact e
    . rcases List.mem_cons.1 ((h b).2 List.mem_cons_self) with e' | e'
      . exact e'.symm
      . exact absurd (hm1 a e) (asym _ _ (hl1 b e'))
   subst hab;rw [Y0n irr asym hl2 hm2 fun x=>?_]
   constructor
   . intro hx
     rcases List.mem_cons.1 ((h x).1 (List.mem_cons_of_mem _ hx)) with e | e
     . subst e; exact absurd (hl1 _ hx) (irr _)
     . exact e
   . intro hx
     rcases List.mem_cons.1 ((h x).2 (List.mem_cons_of_mem _ hx)) with e | e
     . subst e; exact absurd (hm1 _ hx) (irr _)
     . exact e
theorem X2c:∀ a:List Int,Q3r a a = false
 | []=>rfl
 | x :: l=>by simp [Q3r,X2c l]
theorem X6d:∀ {a b:List Int},Q3r a b = true -> Q3r b a = false
 | [],_,h=>by simp [Q3r] at h
 | _ :: _,[],h=>by simp [Q3r] at h
 | x :: l,y :: m,h=>by
   unfold Q3r at h ⊢
   by_cases e:x = y
   . subst e; simp only [if_true] at h ⊢; exact X6d h
   . rw [if_neg e] at h; rw [if_neg (Ne.symm e)]; simp only [decide_eq_true_eq,decide_eq_false_iff_not] at h ⊢; omega
theorem X3j:∀ {a b c:List Int},Q3r a b = true -> Q3r b c = true -> Q3r a c = true
 | [],_,_,h,_=>by simp [Q3r] at h
 | _ :: _,[],_,h,_=>by simp [Q3r] at h
 | _ :: _,_ :: _,[],_,h=>by simp [Q3r] at h
 | x :: l,y :: m,z :: n,h,k=>by
   unfold Q3r at h k ⊢
   by_cases e:x = y
   . subst e; simp only [if_true] at h
     by_cases e':x = z
     . subst e'; simp only [if_true] at k ⊢; exact X3j h k
     . rw [if_neg e'] at k ⊢; exact k
   . rw [if_neg e] at h
     by_cases e':y = z
     . subst e'; rw [if_neg e]; exact h
     . rw [if_neg e'] at k; simp only [decide_eq_true_eq] at h k
       rw [if_neg (by omega)]; simp only [decide_eq_true_eq]; omega
theorem Y0o:∀ {a b:List Int},a.length = b.length -> Q3r a b = false -> a = b ∨ Q3r b a = true
 | [],[],_,_=>.inl rfl
 | [],_ :: _,h,_=>by simp at h
 | _ :: _,[],h,_=>by simp at h
 | x :: l,y :: m,h,k=>by
   unfold Q3r at k ⊢
   by_cases e:x = y
   . subst e; simp only [if_true] at k ⊢
     rcases Y0o (Nat.succ.inj h) k with r | r
     . exact .inl (by rw [r])
     . exact .inr r
   . rw [if_neg e] at k; rw [if_neg (Ne.symm e)]
     simp only [decide_eq_true_eq,decide_eq_false_iff_not] at k ⊢; exact .inr (by omega)
theorem Q5h (a:List Int):¬ Q1i a a = true:=by simp [Q1i,X2c]
theorem X8u (a b:List Int) (h:Q1i a b = true):¬ Q1i b a = true:=by
 unfold Q1i at h ⊢
 by_cases e:a.length = b.length
 . rw [if_pos e] at h; rw [if_pos e.symm,X6d h]; simp
 . rw [if_neg e] at h; rw [if_neg (Ne.symm e)]; simp only [decide_eq_true_eq] at h ⊢; omega
theorem Q4m {a b c:List Int} (h:Q1i a b = true) (k:Q1i b c = true):Q1i a c = true:=by
 unfold Q1i at h k ⊢
 by_cases e:a.length = b.length
 . rw [if_pos e] at h
   by_cases e':b.length = c.length
   . rw [if_pos e'] at k; rw [if_pos (e.trans e')]; exact X3j h k
   . rw [if_neg e'] at k; rw [if_neg (by omega)]; rw [e]; exact k
 . rw [if_neg e] at h
   by_cases e':b.length = c.length
   . rw [if_neg (by omega),<- e']; exact h
   . rw [if_neg e'] at k; simp only [decide_eq_true_eq] at h k; rw [if_neg (by omega)]; simp only [decide_eq_true_eq]; omega
theorem X3p {a b:List Int} (h:Q1i a b = false):a = b ∨ Q1i b a = true:=by
 unfold Q1i at h ⊢
 by_cases e:a.length = b.length
 . rw [if_pos e] at h; rw [if_pos e.symm]; exact Y0o e h
 . rw [if_neg e] at h; rw [if_neg (Ne.symm e)]; simp only [decide_eq_true_eq,decide_eq_false_iff_not] at h ⊢; exact .inr (by omega)
def Asc (l:List (List Int)):Prop:=l.Pairwise fun a b=>Q1i a b = true
theorem Z4i {l m:List (List Int)} (hl:Asc l) (hm:Asc m) (h:∀ x,x ∈ l ↔ x ∈ m):l = m :=
 Y0n Q5h X8u hl hm h
theorem posB (h:List Int) (out:List (List Int)):∀ n,Q1l h out n <= n /\ (∀ i,Q1l h out n <= i -> i < n -> Q1i h (out.getD i []) = true) /\
    (0 < Q1l h out n -> Q1i h (out.getD (Q1l h out n - 1) []) = false)
 | 0=>⟨Nat.le_refl _,fun i _ h=>absurd h (Nat.not_lt_zero _),fun h=>absurd h (Nat.lt_irrefl _)⟩
 | n + 1=>by
   obtain ⟨h1,h2,h3⟩:=posB h out n;unfold Q1l
   by_cases e:Q1i h (out.getD n []) = true
   . rw [if_pos e]
     refine ⟨by omega,fun i hi hn=>?_,h3⟩
     by_cases hin:i = n
     . subst hin; exact e
     . exact h2 i hi (by omega)
   . rw [if_neg e]
     exact ⟨Nat.le_refl _,fun i hi hn=>by omega,fun _=>by simpa using e⟩
theorem row_mem (h:List Int) (row:List (List Int)) (x:List Int):x ∈ Q6m h row ↔ x = h ∨ x ∈ row:=by
 unfold Q6m;obtain ⟨h1,-,-⟩:=posB h row row.length
 by_cases e:0 < Q1l h row row.length /\ row.getD (Q1l h row row.length - 1) [] = h
 . dsimp only; rw [if_pos e]
   refine ⟨.inr,fun k=>k.elim (fun k=>?_) id⟩;subst k;have hlt:Q1l x row row.length - 1 < row.length:=by omega
   rw [List.getD_eq_getElem?_getD,List.getElem?_eq_getElem hlt,Option.getD_some] at e;exact e.2 ▸ List.getElem_mem hlt
 . dsimp only; rw [if_neg e]
   have hx:x ∈ row ↔ x ∈ row.take (Q1l h row row.length) ∨ x ∈ row.drop (Q1l h row row.length):=by
    rw [<- List.mem_append,List.take_append_drop]
   simp only [List.mem_append,List.mem_singleton,hx]
   constructor
   . rintro ((k | k) | k)
     . exact .inr (.inl k)
     . exact .inl k
     . exact .inr (.inr k)
   . rintro (k | k | k)
     . exact .inl (.inr k)
     . exact .inl (.inl k)
     . exact .inr k
theorem Z2y (h:List Int) {row:List (List Int)} (ha:Asc row):Asc (Q6m h row):=by
 unfold Q6m;obtain ⟨h1,h2,h3⟩:=posB h row row.length
 by_cases e:0 < Q1l h row row.length /\ row.getD (Q1l h row row.length - 1) [] = h
 . dsimp only; rw [if_pos e]; exact ha
 . dsimp only; rw [if_neg e]
   generalize Q1l h row row.length = k at *;have hi:∀ i j (hi:i < row.length) (hj:j < row.length),i < j -> Q1i row[i] row[j] = true:=fun i j hi hj hij=>List.pairwise_iff_getElem.1 ha i j hi hj hij;have hd:∀ x ∈ row.drop k,Q1i h x = true:=by
    intro x hx;obtain ⟨i,hi,rfl⟩:=List.mem_iff_getElem.1 hx;rw [List.length_drop] at hi;rw [List.getElem_drop];have:=h2 (k + i) (by omega) (by omega)
    rwa [List.getD_eq_getElem?_getD,List.getElem?_eq_getElem (by omega),Option.getD_some] at this
   have ht:∀ x ∈ row.take k,Q1i x h = true:=by
    intro x hx;obtain ⟨i,hi',rfl⟩:=List.mem_iff_getElem.1 hx;rw [List.length_take] at hi';rw [List.getElem_take];have hk:0 < k:=by omega
    have h4:=h3 hk;have hlt:k - 1 < row.length:=by omega
    rw [List.getD_eq_getElem?_getD,List.getElem?_eq_getElem hlt,Option.getD_some] at h4 e;have h5:Q1i row[k - 1] h = true:=by
     rcases X3p h4 with r | r
     . exact absurd ⟨hk,r.symm⟩ e
     . exact r
    by_cases hik:i = k - 1
    . subst hik; exact h5
    . exact Q4m (hi i (k - 1) (by omega) hlt (by omega)) h5
   refine List.pairwise_append.2 ⟨List.pairwise_append.2 ⟨List.Pairwise.sublist (List.take_sublist _ _) ha,List.pairwise_singleton _ _,fun a ha' b hb=>?_⟩,List.Pairwise.sublist (List.drop_sublist _ _) ha,fun a ha' b hb=>?_⟩
   . rw [List.mem_singleton] at hb; subst hb; exact ht a ha'
   . rcases List.mem_append.1 ha' with r | r
     . exact Q4m (ht a r) (hd b hb)
     . rw [List.mem_singleton] at r; subst r; exact hd b hb
namespace Q0c
variable {s:Q0c}
theorem Y1c (t:Nat):∀ i,Asc (s.Q4s t i)
 | 0=>List.Pairwise.nil
 | i + 1=>Z2y _ (Y1c t i)
theorem Q9g (t:Nat) (x:List Int):∀ i,x ∈ s.Q4s t i ↔ ∃ k,k < i /\ x = (Q0f s.members k).take (t + 1)
 | 0=>by simp [Q4s]
 | i + 1=>by
   rw [Q4s,row_mem,Q9g t x i]
   constructor
   . rintro (h | ⟨k,hk,h⟩)
     . exact ⟨i,Nat.lt_succ_self _,h⟩
     . exact ⟨k,by omega,h⟩
   . rintro ⟨k,hk,h⟩
     by_cases e:k = i
     . subst e; exact .inl h
     . exact .inr ⟨k,by omega,h⟩
theorem Q4o (x:List Int):∀ n,x ∈ s.Q4v n ↔ ∃ t,t < n /\ ∃ k,k < s.members.length /\ x = (Q0f s.members k).take (t + 1)
 | 0=>by simp [Q4v]
 | n + 1=>by
   rw [Q4v,List.mem_append,Q4o x n,Q9g]
   constructor
   . rintro (⟨t,ht,h⟩ | h)
     . exact ⟨t,by omega,h⟩
     . exact ⟨n,Nat.lt_succ_self _,h⟩
   . rintro ⟨t,ht,h⟩
     by_cases e:t = n
     . subst e; exact .inr h
     . exact .inl ⟨t,by omega,h⟩
def Shaped (s:Q0c):Prop:=∀ k,k < s.members.length -> (Q0f s.members k).length = s.ships.length /\ (Q0n s.members k).length = s.ships.length /\ (Q0v s.members k).length = s.ships.length
theorem X6f (hs:s.Shaped):∀ n,n <= s.ships.length -> Asc (s.Q4v n)
 | 0,_=>List.Pairwise.nil
 | n + 1,hn=>by
   refine List.pairwise_append.2 ⟨X6f hs n (by omega),Y1c n _,fun a ha b hb=>?_⟩
   obtain ⟨t,ht,k,hk,rfl⟩:=(Q4o a n).1 ha;obtain ⟨j,hj,rfl⟩:=(Q9g n b _).1 hb;have h1:=(hs k hk).1;have h2:=(hs j hj).1;unfold Q1i;rw [if_neg (by simp only [List.length_take]; omega)]
   simp only [List.length_take,decide_eq_true_eq]; omega
theorem Y4l (hs:s.Shaped):Asc s.hist:=X6f hs _ (Nat.le_refl _)
theorem Z3u (hs:s.Shaped) (x:List Int):x ∈ s.X4u ↔ x ∈ s.hist:=by
 rw [hist,Q4o,X4u,List.mem_flatMap]
 constructor
 . rintro ⟨m,hm,h⟩
   obtain ⟨t,ht,rfl⟩:=List.mem_map.1 h;rw [List.mem_range] at ht;obtain ⟨k,hk,rfl⟩:=List.mem_iff_getElem.1 hm;have e:Q0f s.members k = s.members[k].classes:=by rw [Q0f,Q0r _ hk]
   exact ⟨t,by rw [<- (hs k hk).1,e]; exact ht,k,hk,by rw [e]⟩
 . rintro ⟨t,ht,k,hk,rfl⟩
   have e:Q0f s.members k = s.members[k].classes:=by rw [Q0f,Q0r _ hk]
   refine ⟨s.members[k],List.getElem_mem hk,List.mem_map.2 ⟨t,?_,by rw [e]⟩⟩
   rw [List.mem_range,<- e,(hs k hk).1]; exact ht
theorem Z2j (hs:s.Shaped) {l:List (List Int)} (hl:Asc l) (h:∀ x,x ∈ l ↔ x ∈ s.X4u):l = s.hist :=
 Z4i hl (Y4l hs) fun x=>(h x).trans (Z3u hs x)
end Q0c
end Go.Tw
namespace Go.Tw
def Digits (l:List Int):Prop:=∀ x ∈ l,0 <= x /\ x <= 9
theorem Z1q:∀ {a b:List Int},Digits a -> Digits b -> X0s a = X0s b -> a = b:=by
 have go:∀ {a b:List Int},Digits a -> Digits b -> (a.map fun n=>UInt8.ofNat n.toNat) = (b.map fun n=>UInt8.ofNat n.toNat) -> a = b:=by
  intro a
  induction a with
  | nil=>intro b _ _ h; cases b with | nil=>rfl | cons y b=>simp at h
  | cons x a ih =>
    intro b ha hb h;cases b with
    | nil=>simp at h
    | cons y b =>
      simp only [List.map_cons,List.cons.injEq] at h;have h1:=congrArg UInt8.toNat h.1;simp only [UInt8.toNat_ofNat'] at h1;obtain ⟨x0,x1⟩:=ha x List.mem_cons_self;obtain ⟨y0,y1⟩:=hb y List.mem_cons_self;rw [ih (fun z hz=>ha z (List.mem_cons_of_mem _ hz)) (fun z hz=>hb z (List.mem_cons_of_mem _ hz)) h.2]
      congr 1
      omega
 intro a b ha hb h;have:=congrArg (fun k:ByteArray=>k.data.toList) h;exact go ha hb (by simpa [X0s] using this)
theorem Q8l {l:List Int} (h:Digits l) (n:Nat):Digits (l.take n):=fun x hx=>h x (List.mem_of_mem_take hx)
structure Fine (s:Q0c):Prop where
 shaped:s.Shaped
 digits:∀ k,k < s.members.length -> Digits (Q0f s.members k)
def hs (s:Q0c) (i u:Nat):List Int:=(Q0f s.members i).take u
def Keys (s:Q0c) (cl:List ByteArray) (t:Nat) (l:List Runner):Prop:=∀ b ∈ cl,∃ r ∈ l,∃ u,t < u /\ u <= s.ships.length /\ b = X0s (hs s r.member u)
end Go.Tw
namespace Go.Tw
variable {s:Q0c}
theorem Q2j {x a b:Int}:Q0e x a b = 0 ↔ a <= x /\ x <= b:=by unfold Q0e; split <;> simp <;> omega
theorem Q5v {l:List Int} {m:Int}:Q0k l m = 0 ↔ ∀ x ∈ l,0 <= x /\ x <= m:=by
 unfold Q0k;rw [Q1w]
 constructor
 . intro h x hx; exact Q2j.1 (h _ (List.mem_map.2 ⟨x,hx,rfl⟩))
 . intro h y hy
   obtain ⟨x,hx,rfl⟩:=List.mem_map.1 hy;exact Q2j.2 (h x hx)
structure Q1d (s:Q0c):Prop extends Fine s where
 limit:0 <= s.limit /\ s.limit <= 1024
 tides:0 < s.ships.length /\ s.ships.length <= 6
 delays:∀ x ∈ s.ships,0 <= x /\ x <= 1000
 some:0 < s.members.length /\ s.members.length <= 8
 names:∀ k,k < s.members.length -> nameB (Q1g s.members k) = true
 twice:∀ k,k < s.members.length -> ∀ i,i < k -> Q1g s.members i ≠ Q1g s.members k
 weights:∀ k,k < s.members.length -> 1 <= Q1c s.members k /\ Q1c s.members k <= 1000
 outside:∀ k,k < s.members.length -> ∀ x ∈ Q0n s.members k,0 <= x /\ x <= 1024
 inflow:∀ k,k < s.members.length -> ∀ x ∈ Q0v s.members k,0 <= x /\ x <= 1024
theorem Q3i {k:Nat} (h:s.Q2i k = 0):nameB (Q1g s.members k) = true /\ Q2p s.members k = false /\ (1 <= Q1c s.members k /\ Q1c s.members k <= 1000) /\
    ((Q0f s.members k).length = s.ships.length /\ (Q0n s.members k).length = s.ships.length /\ (Q0v s.members k).length = s.ships.length) /\
    Digits (Q0f s.members k) /\ (∀ x ∈ Q0n s.members k,0 <= x /\ x <= 1024) /\ (∀ x ∈ Q0v s.members k,0 <= x /\ x <= 1024):=by
 unfold Q0c.Q2i at h
 by_cases h1:nameB (Q1g s.members k) = false
 . rw [if_pos h1] at h; exact absurd h (by decide)
 . rw [if_neg h1] at h
   by_cases h2:Q2p s.members k = true
   . rw [if_pos h2] at h; exact absurd h (by decide)
   . rw [if_neg h2] at h
     by_cases h3:Q0e (Q1c s.members k) 1 1000 ≠ 0
     . rw [if_pos h3] at h; exact absurd h (by decide)
     . rw [if_neg h3] at h
       by_cases h4:(Q0f s.members k).length = s.ships.length /\ (Q0n s.members k).length = s.ships.length /\ (Q0v s.members k).length = s.ships.length
       . rw [if_neg (fun hn=>hn h4),Q1w] at h
         refine ⟨by simpa using h1,by simpa using h2,Q2j.1 (Decidable.not_not.1 h3),h4,Q5v.1 (h _ (by simp)),Q5v.1 (h _ (by simp)),Q5v.1 (h _ (by simp))⟩
       . rw [if_pos h4] at h; exact absurd h (by decide)
theorem Q1d.of (h:s.err = 0):Q1d s:=by
 unfold Q0c.err at h
 by_cases h1:Q0e s.limit 0 1024 ≠ 0
 . rw [if_pos h1] at h; exact absurd h (by decide)
 rw [if_neg h1] at h
 by_cases h2:s.ships.length = 0
 . rw [if_pos h2] at h; exact absurd h (by decide)
 rw [if_neg h2] at h
 by_cases h3:6 < s.ships.length
 . rw [if_pos h3] at h; exact absurd h (by decide)
 rw [if_neg h3] at h
 by_cases h4:Q0k s.ships 1000 ≠ 0
 . rw [if_pos h4] at h; exact absurd h (by decide)
 rw [if_neg h4] at h
 by_cases h5:s.members.length = 0
 . rw [if_pos h5] at h; exact absurd h (by decide)
 rw [if_neg h5] at h
 by_cases h6:8 < s.members.length
 . rw [if_pos h6] at h; exact absurd h (by decide)
 rw [if_neg h6,Q1w] at h;have hm:∀ k,k < s.members.length -> s.Q2i k = 0:=fun k hk=>h _ (List.mem_map.2 ⟨k,List.mem_range.2 hk,rfl⟩);have ht:∀ k,k < s.members.length -> ∀ i,i < k -> Q1g s.members i ≠ Q1g s.members k:=fun k hk i hi e=>by
  have:=(Q3i (hm k hk)).2.1;unfold Q2p at this;rw [List.any_eq_false] at this;exact this i (List.mem_range.2 hi) (str_eq e)
 exact ⟨⟨fun k hk=>(Q3i (hm k hk)).2.2.2.1,fun k hk=>(Q3i (hm k hk)).2.2.2.2.1⟩,Q2j.1 (Decidable.not_not.1 h1),⟨by omega,by omega⟩,Q5v.1 (Decidable.not_not.1 h4),⟨by omega,by omega⟩,fun k hk=>(Q3i (hm k hk)).1,ht,fun k hk=>(Q3i (hm k hk)).2.2.1,fun k hk=>(Q3i (hm k hk)).2.2.2.2.2.1,fun k hk=>(Q3i (hm k hk)).2.2.2.2.2.2⟩
end Go.Tw
namespace Go.Proofs
open Go.RowKit Go.Tw Go.Flow
theorem Q8m (x:Int) (l:List Int) (m:Int):Q0k (x :: l) m = if Q0e x 0 m = 0 then Q0k l m else Q0e x 0 m:=rfl
theorem Q5a (w:World) (v:Value) (l:List Int) (m:Int) (hv:Q0b w v l) :
    Calls Tryz.prog 38 #[v,.int .i64 m] w fun e w'=>e = .returned (.int .i64 (Q0k l m)) /\ Ext w w':=by
 obtain ⟨A,cap,rfl,hl,hcap,hc⟩:=hv.opened;clear hv;go_enter Tryz.func38,Tryz.ntmps38;go_wp2
 go_loopw [5] (fun i wr=>∃ k:Nat,k <= l.length /\ i = .int .i64 k /\ Q0k (l.drop k) m = Q0k l m /\ Ext w wr) (fun i _=>l.length - (intOf i).toNat)
 case atStart=>exact ⟨0,Nat.zero_le _,rfl,rfl,Ext.refl _⟩
 case round =>
  obtain ⟨k,hk,rfl,hr,hx⟩:=hrel;have HR:=Lib.hid hr; clear hr
  by_cases hlt:k < l.length
  . obtain ⟨b,off,rfl,hcell⟩:=hc k hlt
    replace hcell:=hx.cell hcell;have HD:=Lib.hid (Q2e hlt);clear hc
    by_cases hz:Q0e (ix l k) 0 m = 0
    . have hz1:(Q0e (ix l k) 0 m != 0) = false:=by simp [hz]
      have HZ:=Lib.hid hz; clear hz;go_wp2_with (go_at_call 37; refine (Q1x _ (ix l k) 0 m).mono ?_; rintro e w' ⟨rfl,rfl⟩);go_roundw
      case rel=>exact ⟨k + 1,by omega,by go_num,by rw [<- HR.out,HD.out,Q8m,if_pos HZ.out],hx⟩
      case measure=>simp [intOf]; omega
    . have hz1:(Q0e (ix l k) 0 m != 0) = true:=by simp [hz]
      have HZ:=Lib.hid hz; clear hz;go_wp2_with (go_at_call 37; refine (Q1x _ (ix l k) 0 m).mono ?_; rintro e w' ⟨rfl,rfl⟩);go_ret;exact ⟨Q0q (by rw [<- HR.out,HD.out,Q8m,if_neg HZ.out]),hx⟩
  . clear hc
    go_wp2;go_ret;exact ⟨Q0q (by rw [<- HR.out,List.drop_eq_nil_of_le (by omega)]; rfl),hx⟩
end Go.Proofs
namespace Go.Proofs
open Go.RowKit Go.Tw Go.Flow
theorem X9b {α:Type} [DecidableEq α] {x y:α} {l m:List α} (h:x = y):decide (x :: l = y :: m) = decide (l = m):=by
 subst h; simp
theorem X9k {α:Type} [DecidableEq α] {x y:α} {l m:List α} (h:¬ x = y):decide (x :: l = y :: m) = false:=by
 simp [h]
theorem Q2w (w:World) (u v:Value) (a b:List Int) (hu:Q0b w u a) (hv:Q0b w v b) :
    Calls Tryz.prog 41 #[u,v] w fun e w'=>e = .returned (.bool (decide (a = b))) /\ Ext w w':=by
 obtain ⟨A,capa,rfl,hla,hcapa,hca⟩:=hu.opened;obtain ⟨B,capb,rfl,hlb,hcapb,hcb⟩:=hv.opened;clear hu hv;go_enter Tryz.func41,Tryz.ntmps41
 by_cases hl:a.length = b.length
 . have hne:((a.length:Int) != (b.length:Int)) = false:=by simp [hl]
   go_wp2
   go_loopw [5] (fun i wr=>∃ k:Nat,k <= a.length /\ i = .int .i64 k /\ decide (a.drop k = b.drop k) = decide (a = b) /\ Ext w wr) (fun i _=>a.length - (intOf i).toNat)
   case atStart=>exact ⟨0,Nat.zero_le _,rfl,rfl,Ext.refl _⟩
   case round =>
    obtain ⟨k,hk,rfl,hr,hx⟩:=hrel;have HR:=Lib.hid hr; clear hr
    by_cases hlt:k < a.length
    . have hlt2:k < b.length:=by omega
      obtain ⟨b1,off1,rfl,hc1⟩:=hca k hlt;obtain ⟨b2,off2,rfl,hc2⟩:=hcb k hlt2;replace hc1:=hx.cell hc1;replace hc2:=hx.cell hc2;have HD1:=Lib.hid (Q2e hlt);have HD2:=Lib.hid (Q2e hlt2);clear hca hcb
      by_cases h0:ix a k = ix b k
      . have hx1:(ix a k != ix b k) = false:=by simp [h0]
        have H0:=Lib.hid h0; clear h0;go_wp2
        go_quiet (fail)
        all_goals go_wp2
        go_roundw
        case rel=>exact ⟨k + 1,by omega,by go_num,by rw [<- HR.out,HD1.out,HD2.out,X9b H0.out],hx.drewN _⟩
        case measure=>simp [intOf]; omega
      . have hx1:(ix a k != ix b k) = true:=by simp [h0]
        have H0:=Lib.hid h0; clear h0;go_wp2
        go_quiet (fail)
        all_goals go_wp2
        go_ret;exact ⟨Q0w (by rw [<- HR.out,HD1.out,HD2.out,X9k H0.out]),hx.drewN _⟩
    . clear hca hcb
      go_wp2;go_ret;exact ⟨Q0w (by rw [<- HR.out,List.drop_eq_nil_of_le (by omega),List.drop_eq_nil_of_le (by omega)]; rfl),hx⟩
 . have hne:((a.length:Int) != (b.length:Int)) = true:=by simp; omega
   have HL:Hid (decide (a = b) = false):=Lib.hid (decide_eq_false (fun h=>hl (by rw [h])))
   clear hl hca hcb;go_wp2;go_ret;exact ⟨Q0w (by rw [HL.out]),Ext.refl _⟩
theorem Z3v {l:List Bool} {k:Nat} (h:k < l.length):l.drop k = bx l k :: l.drop (k + 1):=by
 unfold bx; rw [show l.getD k false = l[k] by simp [h]]; exact List.drop_eq_getElem_cons h
end Go.Proofs
namespace Go.Proofs
open Go.RowKit Go.Tw Go.Flow
theorem Y8b {a b:List Int} {k:Nat} (ha:k < a.length) (hb:k < b.length):Q3r (a.drop k) (b.drop k) = if ix a k = ix b k then Q3r (a.drop (k + 1)) (b.drop (k + 1)) else decide (ix a k < ix b k):=by
 rw [Q2e ha,Q2e hb]; rfl
theorem Q9w (w:World) (u v:Value) (l m:List Int) (hu:Q0b w u l) (hv:Q0b w v m) (hlen:l.length = m.length) :
    Calls Tryz.prog 91 #[u,v] w fun e w'=>e = .returned (.bool (Q3r l m)) /\ Ext w w':=by
 obtain ⟨A,cap,rfl,hl,hcap,hc⟩:=hu.opened;obtain ⟨A',cap',rfl,hl',hcap',hc'⟩:=hv.opened;clear hu hv;have i0:l.length <= m.length:=by omega
 have HLEN:=Lib.hid hlen; clear hlen;go_enter Tryz.func91,Tryz.ntmps91;go_wp2
 go_loopw [5] (fun i wr=>∃ k:Nat,k <= l.length /\ i = .int .i64 k /\ Q3r (l.drop k) (m.drop k) = Q3r l m /\ Ext w wr) (fun i _=>l.length - (intOf i).toNat)
 case atStart=>exact ⟨0,Nat.zero_le _,rfl,rfl,Ext.refl _⟩
 case round =>
  obtain ⟨k,hk,rfl,hr,hx⟩:=hrel;have HR:=Lib.hid hr; clear hr
  by_cases hlt:k < l.length
  . obtain ⟨b,off,rfl,hcell⟩:=hc k hlt
    obtain ⟨b',off',rfl,hcell'⟩:=hc' k (by omega)
    replace hcell:=hx.cell hcell;replace hcell':=hx.cell hcell';clear hc hc';have i1:(k:Int) < l.length:=by omega
    have i2:(k:Int) < m.length:=by omega
    have hst:=Y8b hlt (show k < m.length by omega)
    have HST:=Lib.hid hst; clear hst
    by_cases hx0:ix l k = ix m k
    . have hx1:(ix l k != ix m k) = false:=by simp [hx0]
      have HX:=Lib.hid hx0; clear hx0;go_wp2
      go_quiet (fail)
      all_goals go_wp2
      go_roundw
      case rel=>exact ⟨k + 1,by omega,by go_num,by rw [<- HR.out,HST.out,if_pos HX.out],hx.drewN _⟩
      case measure=>simp [intOf]; omega
    . have hx1:(ix l k != ix m k) = true:=by simp [hx0]
      have HX:=Lib.hid hx0; clear hx0;go_wp2
      go_quiet (fail)
      all_goals go_wp2
      go_quiet (fail)
      all_goals go_wp2
      go_ret;exact ⟨Q0w (by rw [<- HR.out,HST.out,if_neg HX.out]),(hx.drewN _).drewN _⟩
  . clear hc hc'
    go_wp2;go_ret;exact ⟨Q0w (by rw [<- HR.out,List.drop_eq_nil_of_le (by omega)]; rfl),hx⟩
end Go.Proofs
namespace Go.Proofs
open Go.RowKit Go.Tw Go.Flow
def Z7e (lim:Int) (l:List Int):Bool:=!(l.any fun x=>decide (lim < x))
end Go.Proofs
namespace Go.Proofs
open Go.RowKit Go.Tw Go.Flow
def X7r (s:Q0c) (l:List Int) (k:Nat):Int:=Y9d s (l.take k)
end Go.Proofs
namespace Go.Proofs
open Go.RowKit Go.Tw Go.Flow
attribute [local go_sem] Oper.semAt_some
theorem Q2b {w:World} {T:TypeId} {l:List Int} (hl:l.length <= 1000):Q0b (w.alloc (.cells (l.map (Value.int .i64)).toArray T)) (.slice (some ⟨w.heap.size,0,none⟩) l.length l.length) l:=by
 refine ⟨fun j=>.int .i64 (l.getD j 0),⟨some ⟨w.heap.size,0,none⟩,l.length,rfl,by omega,Nat.le_refl _,fun j hj=>⟨w.heap.size,0,rfl,?_⟩⟩,fun j hj=>?_⟩
 . have hj':j < l.length:=by omega
   rw [X7z]; simp [hj']
 . simp [hj]
def Q6b (l:List Mem) (i m:Nat):Bool:=(List.range m).any fun k=>Q1g l k == Q1g l i
theorem X7v (l:List Mem) (i m:Nat):Q6b l i (m + 1) = (Q6b l i m || Q1g l m == Q1g l i):=by
 unfold Q6b;rw [List.range_succ,List.any_append]; simp
theorem Y0a {l:List Mem} {i m:Nat} (hm:m < i) (h:(Q1g l m == Q1g l i) = true):Q2p l i = true:=by
 unfold Q2p;rw [List.any_eq_true];exact ⟨m,List.mem_range.2 hm,h⟩
theorem X3h {s:Q0c} {i:Nat} (h:nameB (Q1g s.members i) = false):s.Q2i i = 8:=if_pos h
theorem X1u {s:Q0c} {i:Nat} (h:nameB (Q1g s.members i) = true) (h2:Q2p s.members i = true):s.Q2i i = 9:=(if_neg (by rw [h]; simp)).trans (if_pos h2)
theorem Q8y {s:Q0c} {i:Nat} (h:nameB (Q1g s.members i) = true) (h2:Q2p s.members i = false) (h3:Q0e (Q1c s.members i) 1 1000 ≠ 0):s.Q2i i = 3:=(if_neg (by rw [h]; simp)).trans ((if_neg (by rw [h2]; simp)).trans (if_pos h3))
theorem X2f {s:Q0c} {i:Nat} (h:nameB (Q1g s.members i) = true) (h2:Q2p s.members i = false) (h3:Q0e (Q1c s.members i) 1 1000 = 0) (h4:¬ ((Q0f s.members i).length = s.ships.length /\ (Q0n s.members i).length = s.ships.length /\ (Q0v s.members i).length = s.ships.length)):s.Q2i i = 2 :=
 (if_neg (by rw [h]; simp)).trans ((if_neg (by rw [h2]; simp)).trans ((if_neg (fun hn=>hn h3)).trans (if_pos h4)))
theorem X4w {s:Q0c} {i:Nat} (h:nameB (Q1g s.members i) = true) (h2:Q2p s.members i = false) (h3:Q0e (Q1c s.members i) 1 1000 = 0) (h4:(Q0f s.members i).length = s.ships.length /\ (Q0n s.members i).length = s.ships.length /\ (Q0v s.members i).length = s.ships.length):s.Q2i i = Q0h [Q0k (Q0f s.members i) 9,Q0k (Q0n s.members i) 1024,Q0k (Q0v s.members i) 1024] :=
 (if_neg (by rw [h]; simp)).trans ((if_neg (by rw [h2]; simp)).trans ((if_neg (fun hn=>hn h3)).trans (if_neg (fun hn=>hn h4))))
theorem Q4p {x a b:Int} (h:Q0e x a b ≠ 0):Q0e x a b = 3:=by unfold Q0e at h ⊢; split at h <;> simp_all
theorem X2s (w:World) (v:Value) (s:Q0c) (i:Nat) (hv:Q0o w v s) (hi:i < s.members.length) :
    Calls Tryz.prog 39 #[v,.int .i64 (i:Int)] w fun e w'=>e = .returned (.int .i64 (s.Q2i i)) /\ Ext w w':=by
 obtain ⟨a,b,rfl,h2⟩:=hv;obtain ⟨A,capa,rfl,hla,-,-⟩:=h2.ships.opened;obtain ⟨B,capb,rfl,hlb,-,hc⟩:=h2.members.opened;obtain ⟨bm,off,x,y,z,rfl,hbm,e0,e1,e2,e3,e4,hx,hy,hz,hsh⟩:=hc i hi;obtain ⟨X,capx,rfl,hlx,-,-⟩:=hx.opened;obtain ⟨Y,capy,rfl,hly,-,-⟩:=hy.opened;obtain ⟨Z,capz,rfl,hlz,-,-⟩:=hz.opened;have HCC:Hid (∀ k,k < s.members.length -> w.cell? ⟨bm,off + k * 5,none⟩ = some (.string (Q1g s.members k))):=Lib.hid (fun k hk=>by
  obtain ⟨b',off',_,_,_,hA,_,h0,_⟩:=hc k hk;cases hA;exact h0)
 have hiI:(i:Int) < s.members.length:=by omega
 have HSH:=Lib.hid hsh;have HXI:=Lib.hid hx;have HYI:=Lib.hid hy;have HZI:=Lib.hid hz;clear hc hsh h2 hx hy hz;have HMN:=Lib.hid (X3h (s:=s) (i:=i));have HMT:=Lib.hid (X1u (s:=s) (i:=i));have HMW:=Lib.hid (Q8y (s:=s) (i:=i));have HMS:=Lib.hid (X2f (s:=s) (i:=i));have HMR:=Lib.hid (X4w (s:=s) (i:=i));have HYES:Hid (∀ m,m < i -> (Q1g s.members m == Q1g s.members i) = true -> Q2p s.members i = true):=Lib.hid (fun m hm h=>Y0a hm h);have HSUC:Hid (∀ m,Q6b s.members i (m + 1) = (Q6b s.members i m || Q1g s.members m == Q1g s.members i)):=Lib.hid (fun m=>X7v _ _ m)
 have HEND:Hid (Q6b s.members i i = Q2p s.members i):=Lib.hid rfl;obtain ⟨nm,hnm⟩:∃ x,Q1g s.members i = x:=⟨_,rfl⟩;obtain ⟨wt,hwt⟩:∃ x,Q1c s.members i = x:=⟨_,rfl⟩;obtain ⟨lc,hlc⟩:∃ x,Q0f s.members i = x:=⟨_,rfl⟩;obtain ⟨lo,hlo⟩:∃ x,Q0n s.members i = x:=⟨_,rfl⟩;obtain ⟨li,hli⟩:∃ x,Q0v s.members i = x:=⟨_,rfl⟩;have HCI:=Lib.hid (HCC.out i hi);rw [hnm] at e0 HSH HMN HMT HMW HMS HMR HYES HSUC HCI;rw [hwt] at e1 HMW HMS HMR;rw [hlc] at e2 hlx HXI HMS HMR;rw [hlo] at e3 hly HYI HMS HMR;rw [hli] at e4 hlz HZI HMS HMR;clear hnm hwt hlc hlo hli;go_enter Tryz.func39,Tryz.ntmps39;go_wp2_with fail;change Calls _ _ _ ((w.alloc (.cells #[.int .i64 s.limit,.slice A s.ships.length capa,.slice (some ⟨bm,off,none⟩) s.members.length capb] 55)).alloc (.cells #[.string nm,.int .i64 wt,.slice X lc.length capx,.slice Y lo.length capy,.slice Z li.length capz] 77)) _;obtain ⟨W,hWW,k0,k1,HXW,eW⟩:=Q5t w 55 #[.int .i64 s.limit,.slice A s.ships.length capa,.slice (some ⟨bm,off,none⟩) s.members.length capb] 77 #[.string nm,.int .i64 wt,.slice X lc.length capx,.slice Y lo.length capy,.slice Z li.length capz];rw [hWW];clear hWW;have K0:=Lib.hid k0;have K1:=Lib.hid k1;clear k0 k1 e0 e1 e2 e3 e4;refine (Y4z _ _ HSH.out).mono ?_;rintro e w1 ⟨rfl,rfl⟩;cases hnb:nameB nm with
 | false =>
   have HR:=Lib.hid (HMN.out hnb);clear hnb;go_wp2;go_ret;exact ⟨Q0q HR.out.symm,HXW.out⟩
 | true =>
   have HNB:=Lib.hid hnb;clear hnb;have k0:=K0.out;have c0_2:=k0.cell 2;have c1_0:=K1.out.cell 0;simp only [Go.Tw.gA,Go.Tw.gB,Go.Tw.gC] at c0_2 c1_0;clear k0;go_wp2_with fail
   go_loopw [6] (fun j wr=>∃ m:Nat,m <= i /\ j = .int .i64 m /\ Q6b s.members i m = false /\ Ext W wr) (fun j _=>i - (intOf j).toNat)
   case atStart=>exact ⟨0,Nat.zero_le _,rfl,rfl,Ext.refl _⟩
   case round =>
    obtain ⟨m,hm,rfl,htw,hxr⟩:=hrel;have HTW:=Lib.hid htw;have HXR:=Lib.hid hxr;replace c0_2:=hxr.cell c0_2;replace c1_0:=hxr.cell c1_0;clear htw
    by_cases hmi:m < i
    . have hck:=(HXW.out.trans hxr).cell (HCC.out m (by omega))
      have hy1:=HYES.out m hmi;have hy2:=HSUC.out m;obtain ⟨x,hx⟩:∃ x,Q1g s.members m = x:=⟨_,rfl⟩;rw [hx] at hck hy1 hy2;obtain ⟨q,hq⟩:∃ q,(x.toList == nm.toList) = q:=⟨_,rfl⟩;have HQ:Hid ((x == nm) = q):=Lib.hid (by rw [Go.beq_toListBytes]; exact hq)
      rw [HQ.out] at hy1 hy2;have HY1:=Lib.hid hy1;have HY2:=Lib.hid hy2;have hmI:(m:Int) < (s.members.length:Int):=by omega
      have hmiI:(m:Int) < (i:Int):=by omega
      clear hx hy1 hy2 hxr;cases q with
      | true =>
        go_light
        go_wp2
        go_quiet (fail)
        all_goals go_wp2
        go_ret;exact ⟨Q0q (HMT.out HNB.out (HY1.out (by trivial))).symm,HXW.out.trans (HXR.out.drewN _)⟩
      | false =>
        go_light
        go_wp2
        go_quiet (fail)
        all_goals go_wp2
        go_roundw
        case rel=>exact ⟨m + 1,by omega,by go_num,by rw [HY2.out,HTW.out]; rfl,HXR.out.drewN _⟩
        case measure=>simp [intOf]; omega
    . have hme:m = i:=by omega
      subst hme;have HTF:Hid (Q2p s.members m = false):=Lib.hid (HTW.out);have hmiI:¬ (m:Int) < (m:Int):=by omega
      have c0_1:=hxr.cell (K0.out.cell 1);have k1:=K1.out.ext hxr;have c1_1:=k1.cell 1;have c1_2:=k1.cell 2;have c1_3:=k1.cell 3;have c1_4:=k1.cell 4;simp only [Go.Tw.gA,Go.Tw.gB,Go.Tw.gC] at c0_1 c1_1 c1_2 c1_3 c1_4;have HXX:=Lib.hid (HXW.out.trans hxr);have HKR:=Lib.hid k1;clear k1 hxr hmi
      by_cases hw:Q0e wt 1 1000 = 0
      . have hwn:(Q0e wt 1 1000 != 0) = false:=by simp [hw]
        have HWZ:=Lib.hid hw;clear hw
        by_cases h1:lc.length = s.ships.length
        . have h1b:((lc.length:Int) != (s.ships.length:Int)) = false:=by rw [h1]; simp
          by_cases h2:lo.length = s.ships.length
          . have h2b:((lo.length:Int) != (s.ships.length:Int)) = false:=by rw [h2]; simp
            by_cases h3:li.length = s.ships.length
            . have h3b:((li.length:Int) != (s.ships.length:Int)) = false:=by rw [h3]; simp
              have hrest:=HMR.out HNB.out HTF.out HWZ.out ⟨h1,h2,h3⟩;obtain ⟨E,hE⟩:∃ E,Q0h [Q0k lc 9,Q0k lo 1024,Q0k li 1024] = E:=⟨_,rfl⟩;rw [hE] at hrest;have HE:Hid (∀ (w':World) (u:Value),Q0b w' u [Q0k lc 9,Q0k lo 1024,Q0k li 1024] -> Calls Tryz.prog 89 #[u] w' fun e w''=>e = .returned (.int .i64 E) /\ w' = w''):=Lib.hid (by intro w' u h; rw [<- hE]; exact Y7q _ _ _ h)
              have HRE:=Lib.hid hrest;have hdr:=(Ext.refl wr).drew;clear h1 h2 h3 hE hrest;go_wp2_with (go_at_call 37; refine (Q1x _ wt 1 1000).mono ?_; rintro e w' ⟨rfl,rfl⟩);refine Flow.Q1p [.p,.w,.w,.p,.w,.w,.p,.w,.w,.w,.w,.p] [0,1,2,3,4,5,6,7,8,9,10,11] [[],[0],[1],[],[3],[2,4],[],[6],[5,7],[2,5,8],[8,9],[0,1,2,3,4,5,6,7,8,9,10]]
               [.c 0 (.pointer (some ⟨w.heap.size + 1,2,none⟩)),.c 1 (.slice X lc.length capx),.c 2 (.int .i64 (Q0k lc 9)),.c 3 (.pointer (some ⟨w.heap.size + 1,3,none⟩)),.c 4 (.slice Y lo.length capy),.c 5 (.int .i64 (Q0k lo 1024)),.c 6 (.pointer (some ⟨w.heap.size + 1,4,none⟩)),.c 7 (.slice Z li.length capz),.c 8 (.int .i64 (Q0k li 1024)),⟨fun v wz=>Q0b wz (v 9) [Q0k lc 9,Q0k lo 1024,Q0k li 1024],fun _ _ _ hx h=>h.ext hx⟩,.c 10 (.int .i64 E),.c 11 (.int .i64 E)]
               (by kernel_rfl) rfl (by kernel_rfl) ⟨?g0,?g1,?g2,?g3,?g4,?g5,?g6,?g7,?g8,?g9,?g10,?g11,trivial⟩ ?post
              case g0 | g3 | g6=>
               intro v w1 hx;intro bb hbb;subst hbb;refine ⟨_,fun w=>?_,rfl⟩;go_simp
              case g1 | g4 | g7=>
               intro v w1 hx;(repeat intro (zq:v _ = _));intro bb hbb;subst hbb;have n0:w1.cell? ⟨w.heap.size + 1,2,none⟩ = some (.slice X lc.length capx):=(HKR.out.ext (hdr.trans hx)).cell 2;have n1:w1.cell? ⟨w.heap.size + 1,3,none⟩ = some (.slice Y lo.length capy):=(HKR.out.ext (hdr.trans hx)).cell 3;have n2:w1.cell? ⟨w.heap.size + 1,4,none⟩ = some (.slice Z li.length capz):=(HKR.out.ext (hdr.trans hx)).cell 4;intro K hK;go_simp;exact hK _ _ (Ext.refl _) rfl
              case g2=>
               intro v w1 hx;(repeat intro (zq:v _ = _));intro bb hbb;subst hbb;intro K hK;go_simp;refine Q0d (Q5a w1 _ lc 9 (HXI.out.ext (HXX.out.trans (hdr.trans hx)))) ?_;rintro e w2 ⟨rfl,hx2⟩;exact ⟨_,rfl,hK _ _ hx2 rfl⟩
              case g5=>
               intro v w1 hx;(repeat intro (zq:v _ = _));intro bb hbb;subst hbb;intro K hK;go_simp;refine Q0d (Q5a w1 _ lo 1024 (HYI.out.ext (HXX.out.trans (hdr.trans hx)))) ?_;rintro e w2 ⟨rfl,hx2⟩;exact ⟨_,rfl,hK _ _ hx2 rfl⟩
              case g8=>
               intro v w1 hx;(repeat intro (zq:v _ = _));intro bb hbb;subst hbb;intro K hK;go_simp;refine Q0d (Q5a w1 _ li 1024 (HZI.out.ext (HXX.out.trans (hdr.trans hx)))) ?_;rintro e w2 ⟨rfl,hx2⟩;exact ⟨_,rfl,hK _ _ hx2 rfl⟩
              case g9=>
               intro v w1 hx;(repeat intro (zq:v _ = _));intro bb hbb;subst hbb;intro K hK;go_simp;exact hK _ _ (Ext.box _ _) (Q2b (l:=[Q0k lc 9,Q0k lo 1024,Q0k li 1024]) (by simp))
              case g10=>
               intro v w1 hx (q8:v 8 = _) (q9:Q0b w1 (v 9) [Q0k lc 9,Q0k lo 1024,Q0k li 1024]);intro bb hbb;subst hbb;intro K hK;go_simp;refine Q0d (HE.out _ _ q9) ?_;rintro e w2 ⟨rfl,rfl⟩;exact ⟨_,rfl,hK _ _ (Ext.refl _) rfl⟩
              case g11=>
               intro v w1 hx (q0:v 0 = _) (q1:v 1 = _) (q2:v 2 = _) (q3:v 3 = _) (q4:v 4 = _) (q5:v 5 = _) (q6:v 6 = _) (q7:v 7 = _) (q8:v 8 = _) _ (q10:v 10 = _);intro bb hbb;subst hbb;refine ⟨_,fun w=>?_,rfl⟩;go_simp
              case post =>
               intro v w1 hx;(iterate 9 intro (zq:v _ = _));intro (q9:Q0b w1 (v 9) [Q0k lc 9,Q0k lo 1024,Q0k li 1024]);(iterate 2 intro (zq:v _ = _));simp only [Flow.All,Flow.acts,Act.put];go_simp;have HX9:=Lib.hid (HXX.out.trans (hdr.trans hx));clear hx hdr q9;(repeat clear zq);go_wp2;go_ret;exact ⟨Q0q HRE.out.symm,HX9.out⟩
            . have h3b:((li.length:Int) != (s.ships.length:Int)) = true:=by rw [bne_iff_ne]; omega
              have HR:=Lib.hid (HMS.out HNB.out HTF.out HWZ.out fun h=>h3 h.2.2);clear h1 h2 h3;go_wp2_with (go_at_call 37; refine (Q1x _ wt 1 1000).mono ?_; rintro e w' ⟨rfl,rfl⟩);go_ret;exact ⟨Q0q HR.out.symm,HXX.out⟩
          . have h2b:((lo.length:Int) != (s.ships.length:Int)) = true:=by rw [bne_iff_ne]; omega
            have HR:=Lib.hid (HMS.out HNB.out HTF.out HWZ.out fun h=>h2 h.2.1);clear h1 h2;go_wp2_with (go_at_call 37; refine (Q1x _ wt 1 1000).mono ?_; rintro e w' ⟨rfl,rfl⟩);go_ret;exact ⟨Q0q HR.out.symm,HXX.out⟩
        . have h1b:((lc.length:Int) != (s.ships.length:Int)) = true:=by rw [bne_iff_ne]; omega
          have HR:=Lib.hid (HMS.out HNB.out HTF.out HWZ.out fun h=>h1 h.1);clear h1;go_wp2_with (go_at_call 37; refine (Q1x _ wt 1 1000).mono ?_; rintro e w' ⟨rfl,rfl⟩);go_ret;exact ⟨Q0q HR.out.symm,HXX.out⟩
      . have hwn:(Q0e wt 1 1000 != 0) = true:=by simp [hw]
        have HR:Hid (s.Q2i m = Q0e wt 1 1000):=Lib.hid (by rw [HMW.out HNB.out HTF.out hw,Q4p hw])
        clear hw;go_wp2_with (go_at_call 37; refine (Q1x _ wt 1 1000).mono ?_; rintro e w' ⟨rfl,rfl⟩);go_ret;exact ⟨Q0q HR.out.symm,HXX.out⟩
end Go.Proofs
namespace Go.Proofs
open Go.RowKit Go.Tw Go.Flow
def Q2x (f:Nat -> Int) (n k:Nat):Int:=Q0h (((List.range n).map f).drop k)
theorem Q8x {f:Nat -> Int} {n k:Nat} (hk:k < n):Q2x f n k = if f k = 0 then Q2x f n (k + 1) else f k:=by
 unfold Q2x;rw [List.drop_eq_getElem_cons (by simpa using hk),List.getElem_map,List.getElem_range]; rfl
theorem X1y {f:Nat -> Int} {n k:Nat} (hk:n <= k):Q2x f n k = 0:=by
 unfold Q2x;rw [List.drop_eq_nil_of_le (by simpa using hk)]; rfl
theorem Q6t:∀ {l:List Int} {m:Int},Q0k l m ≠ 0 -> Q0k l m = 3
 | [],m,h=>absurd rfl h
 | x :: l,m,h=>by
   rw [Q8m] at h ⊢
   split at h
   . rename_i h0; rw [if_pos h0]; exact Q6t h
   . rename_i h0; rw [if_neg h0]; exact Q4p h0
theorem Y0z {s:Q0c} (h:Q0e s.limit 0 1024 ≠ 0):s.err = 3:=if_pos h
theorem Y4b {s:Q0c} (h:Q0e s.limit 0 1024 = 0) (h1:s.ships.length = 0):s.err = 12:=(if_neg (fun hn=>hn h)).trans (if_pos h1)
theorem Y4c {s:Q0c} (h:Q0e s.limit 0 1024 = 0) (h1:¬ s.ships.length = 0) (h2:6 < s.ships.length):s.err = 5:=(if_neg (fun hn=>hn h)).trans ((if_neg h1).trans (if_pos h2))
theorem X9g {s:Q0c} (h:Q0e s.limit 0 1024 = 0) (h1:¬ s.ships.length = 0) (h2:¬ 6 < s.ships.length) (h3:Q0k s.ships 1000 ≠ 0):s.err = 3:=(if_neg (fun hn=>hn h)).trans ((if_neg h1).trans ((if_neg h2).trans (if_pos h3)))
theorem X4t {s:Q0c} (h:Q0e s.limit 0 1024 = 0) (h1:¬ s.ships.length = 0) (h2:¬ 6 < s.ships.length) (h3:Q0k s.ships 1000 = 0) :
    s.err = if s.members.length = 0 then 12 else if 8 < s.members.length then 5 else Q2x s.Q2i s.members.length 0:=(if_neg (fun hn=>hn h)).trans ((if_neg h1).trans ((if_neg h2).trans (if_neg (fun hn=>hn h3))))
theorem X2g (w:World) (v:Value) (s:Q0c) (hv:Q0o w v s) :
    Calls Tryz.prog 14 #[v] w fun e w'=>e = .returned (.int .i64 s.err) /\ Ext w w':=by
 obtain ⟨a,b,rfl,h2⟩:=hv;obtain ⟨A,capa,rfl,hla,-,-⟩:=h2.ships.opened;obtain ⟨B,capb,rfl,hlb,-,-⟩:=h2.members.opened;have H2:=Lib.hid h2;clear h2;have HEL:=Lib.hid (Y0z (s:=s));have HEN:=Lib.hid (Y4b (s:=s));have HEM:=Lib.hid (Y4c (s:=s));have HED:=Lib.hid (X9g (s:=s));have HES:=Lib.hid (X4t (s:=s));go_enter Tryz.func14,Tryz.ntmps14;go_wp2_with fail;change Calls _ _ _ (w.alloc (.cells #[.int .i64 s.limit,.slice A s.ships.length capa,.slice B s.members.length capb] 55)) _;obtain ⟨W,hWW,k0,HXW,eW⟩:=Q2q w 55 #[.int .i64 s.limit,.slice A s.ships.length capa,.slice B s.members.length capb];rw [hWW];clear hWW;have K0:=Lib.hid k0;have c0_0:=k0.cell 0;have c0_1:=k0.cell 1;have c0_2:=k0.cell 2;simp only [Go.Tw.gA,Go.Tw.gB,Go.Tw.gC] at c0_0 c0_1 c0_2;clear k0;refine (Q1x _ s.limit 0 1024).mono ?_;rintro e w' ⟨rfl,rfl⟩
 by_cases h0:Q0e s.limit 0 1024 ≠ 0
 . have h0b:(Q0e s.limit 0 1024 != 0) = true:=by simp [h0]
   have HR:Hid (s.err = Q0e s.limit 0 1024):=Lib.hid (by rw [HEL.out h0,Q4p h0])
   clear h0;go_wp2;go_ret;exact ⟨Q0q HR.out.symm,HXW.out⟩
 replace h0:=Decidable.not_not.1 h0;have h0b:(Q0e s.limit 0 1024 != 0) = false:=by simp [h0]
 have HZ0:=Lib.hid h0;clear h0
 by_cases h1:s.ships.length = 0
 . have h1b:((s.ships.length:Int) == 0) = true:=by rw [h1]; rfl
   have HR:=Lib.hid (HEN.out HZ0.out h1);clear h1;go_wp2;go_ret;exact ⟨Q0q HR.out.symm,HXW.out⟩
 have h1b:((s.ships.length:Int) == 0) = false:=by rw [beq_eq_false_iff_ne]; omega
 have HZ1:=Lib.hid h1;clear h1
 by_cases h6:6 < s.ships.length
 . have h6b:(6:Int) < s.ships.length:=by omega
   have HR:=Lib.hid (HEM.out HZ0.out HZ1.out h6);clear h6;go_wp2;go_ret;exact ⟨Q0q HR.out.symm,HXW.out⟩
 have h6b:¬ (6:Int) < s.ships.length:=by omega
 have HZ6:=Lib.hid h6;clear h6;go_wp2_with fail;refine (Q5a _ _ s.ships 1000 (H2.out.ships.ext HXW.out)).mono ?_;rintro e w1 ⟨rfl,hx1⟩;replace c0_0:=hx1.cell c0_0;replace c0_1:=hx1.cell c0_1;replace c0_2:=hx1.cell c0_2;have HX1:=Lib.hid (HXW.out.trans hx1);clear hx1
 by_cases h3:Q0k s.ships 1000 ≠ 0
 . have h3b:(Q0k s.ships 1000 != 0) = true:=by simp [h3]
   have HR:Hid (s.err = Q0k s.ships 1000):=Lib.hid (by rw [HED.out HZ0.out HZ1.out HZ6.out h3,Q6t h3])
   clear h3;go_wp2;go_ret;exact ⟨Q0q HR.out.symm,HX1.out⟩
 replace h3:=Decidable.not_not.1 h3;have h3b:(Q0k s.ships 1000 != 0) = false:=by simp [h3]
 have HREST:=Lib.hid (HES.out HZ0.out HZ1.out HZ6.out h3);clear h3
 by_cases h4:s.members.length = 0
 . have h4b:((s.members.length:Int) == 0) = true:=by rw [h4]; rfl
   have HR:Hid (s.err = 12):=Lib.hid (by rw [HREST.out,if_pos h4])
   clear h4;go_wp2;go_ret;exact ⟨Q0q HR.out.symm,HX1.out⟩
 have h4b:((s.members.length:Int) == 0) = false:=by rw [beq_eq_false_iff_ne]; omega
 by_cases h8:8 < s.members.length
 . have h8b:(8:Int) < s.members.length:=by omega
   have HR:Hid (s.err = 5):=Lib.hid (by rw [HREST.out,if_neg h4,if_pos h8])
   clear h4 h8;go_wp2;go_ret;exact ⟨Q0q HR.out.symm,HX1.out⟩
 have h8b:¬ (8:Int) < s.members.length:=by omega
 have HE:Hid (s.err = Q2x s.Q2i s.members.length 0):=Lib.hid (by rw [HREST.out,if_neg h4,if_neg h8])
 clear h4 h8 HREST HEL HEN HEM HED HES;go_wp2_with fail
 go_loopw [5] (fun i wr=>∃ k:Nat,k <= s.members.length /\ i = .int .i64 k /\ Q2x s.Q2i s.members.length k = Q2x s.Q2i s.members.length 0 /\ Ext w1 wr) (fun i _=>s.members.length - (intOf i).toNat)
 case atStart=>exact ⟨0,Nat.zero_le _,rfl,rfl,Ext.refl _⟩
 case round =>
  obtain ⟨k,hk,rfl,hr,hx⟩:=hrel;have HR:=Lib.hid hr;have HX:=Lib.hid hx;replace c0_0:=hx.cell c0_0;replace c0_1:=hx.cell c0_1;replace c0_2:=hx.cell c0_2;clear hr hx
  by_cases hlt:k < s.members.length
  . have hltI:(k:Int) < (s.members.length:Int):=by omega
    have HST:=Lib.hid (Q8x (f:=s.Q2i) hlt);have HCM:=Lib.hid (X2s wr _ s k ⟨_,_,rfl,H2.out.ext (HX1.out.trans HX.out)⟩ hlt)
    go_light
    go_wp2_with fail;refine HCM.out.mono ?_;rintro e w2 ⟨rfl,hx2⟩;have HX2:=Lib.hid (HX.out.trans hx2);clear hx2 c0_0 c0_1 c0_2
    by_cases he:s.Q2i k = 0
    . have heb:(s.Q2i k != 0) = false:=by simp [he]
      have HZ:=Lib.hid he;clear he;go_wp2;go_roundw
      case rel=>exact ⟨k + 1,by omega,by go_num,by rw [<- HR.out,HST.out,if_pos HZ.out],HX2.out⟩
      case measure=>simp [intOf]; omega
    . have heb:(s.Q2i k != 0) = true:=by simp [he]
      have HZ:=Lib.hid he;clear he;go_wp2;go_ret;exact ⟨Q0q (by rw [HE.out,<- HR.out,HST.out,if_neg HZ.out]),HX1.out.trans HX2.out⟩
  . have hltI:¬ (k:Int) < (s.members.length:Int):=by omega
    go_wp2;go_ret;exact ⟨Q0q (by rw [HE.out,<- HR.out,X1y (by omega)]),HX1.out.trans HX.out⟩
end Go.Proofs
namespace Go.Proofs
open Go.RowKit Go.Tw Go.Flow
theorem Tryz.Q8u:(Tryz.prog.info? 34).map (fun i=>(i.zero,i.size,i.bytes)) = some (some (.int .i64 0),1,8):=by kernel_rfl
theorem X9i (f:Int -> Int) (l:List Int) {k:Nat} (hk:k < l.length):(l.map f).take k ++ [f (ix l k)] = (l.map f).take (k + 1):=by
 rw [List.take_succ_eq_append_getElem (by simpa using hk),Q6r hk]
 simp
theorem Q6d (w:World) (v:Value) (l:List Int) (g:Nat) (f:Int -> Int) (hv:Q0b w v l) (hle:l.length <= 4096) (eg:∀ args w,(callFunc g args).run Tryz.prog w = .ok (.enter g args) w)
    (hf:∀ W x,Calls Tryz.prog g #[.int .i64 x] W fun e W'=>e = .returned (.int .i64 (f x)) /\ W = W') :
    Calls Tryz.prog 101 #[v,.func (.func g) #[] #[]] w fun e w'=>∃ x,e = .returned x /\ Q0b w' x (l.map f) /\ Ext w w':=by
 obtain ⟨i0,hi,hz0,hz1,hz2⟩:=info_parts Tryz.Q8u;obtain ⟨A,cap,rfl,hl,hcap,hc⟩:=hv.opened;have HC:=Lib.hid hc;have HF:=Lib.hid hf;clear hv hc hf;go_enter Tryz.func101,Tryz.ntmps101;go_wp2
 go_loopw [5,10] (fun o i wr=>∃ (k:Nat),k <= l.length /\ i = .int .i64 k /\ Q0g wr w.heap.size 34 (.int .i64) o ((l.map f).take k) /\ Ext w wr) (fun _ i _=>l.length - (intOf i).toNat)
 case atStart=>exact ⟨0,Nat.zero_le _,rfl,Q0g.nil _ _ _ _,Ext.refl _⟩
 case round =>
  obtain ⟨k,hk,rfl,hown,hx⟩:=hrel;have hlen:((l.map f).take k).length = k:=by rw [List.length_take,List.length_map]; omega
  by_cases hlt:k < l.length
  . obtain ⟨b,off,rfl,hcell⟩:=HC.out k hlt
    have HTK:=Lib.hid (X9i f l hlt);obtain ⟨s,hs⟩:∃ s,ix l k = s:=⟨_,rfl⟩;have HFS:=Lib.hid (HF.out wr s);rw [hs] at hcell HTK;obtain ⟨y,hy⟩:∃ y,f s = y:=⟨_,rfl⟩;rw [hy] at HFS HTK;replace hcell:=hx.cell hcell;have hll:((l.map f).take k).length <= 4096:=by omega
    clear hs hlen hy;go_wp2_with (first | (refine HFS.out.mono ?_; rintro e w9 ⟨rfl,rfl⟩) | (at_builtin; refine wpList_append_own _ rfl _ _ 178 rfl (w.heap.size) 34 i0 (.int .i64 0) 1 8 Tryz.underlying178 hi hz0 hz1 hz2 rfl (by decide) _ _ _ rfl (World.ownsRow.alloc hown _) ⟨wr.heap.size,0,none⟩ 1 1 [.int .i64 y] rfl rfl ?_ ?_ ?_ ?_ ?_ ?_; exact Q4h _ _ _; (focus (simp [Value.oneCell'])); (focus (unfold maxLen; omega)); (focus omega); (focus (have:=hx.size; simp at this ⊢; omega)); intro v' w1 hown' hgrow _))
    have hx':=Q2r hx hown (Nat.le_refl _) hgrow;go_wp2;go_roundw
    case rel=>exact ⟨k + 1,by omega,by go_num,by rw [<- HTK.out]; exact Q0g.snoc hown',hx'⟩
    case measure=>simp [intOf]; omega
  . have HE:Hid ((l.map f).take k = l.map f):=Lib.hid (by rw [List.take_of_length_le (by rw [List.length_map]; omega)])
    rw [HE.out] at hown;have HOWN:=Lib.hid hown;clear hown hlen;go_wp2;go_ret;exact ⟨_,rfl,HOWN.out.ints (by simp; omega),hx⟩
theorem Q6l (w:World) (v:Value) (l:List Int) (hv:Q0b w v l) (hle:l.length <= 4096) :
    Calls Tryz.prog 101 #[v,.func (.func 100) #[] #[]] w fun e w'=>∃ x,e = .returned x /\ Q0b w' x (l.map fun x=>Q0e x 0 1024) /\ Ext w w' :=
 Q6d w v l _ _ hv hle (enters_of Tryz.func100 (by kernel_rfl) rfl) (fun W x=>Q6v W x)
theorem X4i (w:World) (v:Value) (l:List Int) (hv:Q0b w v l) (hle:l.length <= 4096) :
    Calls Tryz.prog 101 #[v,.func (.func 102) #[] #[]] w fun e w'=>∃ x,e = .returned x /\ Q0b w' x (l.map fun x=>Q0e x 0 1000) /\ Ext w w' :=
 Q6d w v l _ _ hv hle (enters_of Tryz.func102 (by kernel_rfl) rfl) (fun W x=>X5h W x)
theorem X4r (w:World) (v:Value) (l:List Int) (hv:Q0b w v l) (hle:l.length <= 4096) :
    Calls Tryz.prog 101 #[v,.func (.func 107) #[] #[]] w fun e w'=>∃ x,e = .returned x /\ Q0b w' x (l.map fun x=>Q0e x 0 9) /\ Ext w w' :=
 Q6d w v l _ _ hv hle (enters_of Tryz.func107 (by kernel_rfl) rfl) (fun W x=>X5o W x)
theorem Y1q (W:World) (nm s:ByteArray) (c1 c2 c3 c4:Value) (B:Nat) (hB:W.cell? ⟨B,0,none⟩ = some (.string s)) :
    Calls Tryz.prog 104 #[.agg #[.string nm,c1,c2,c3,c4],.pointer (some ⟨B,0,none⟩)] W fun e W'=>e = .returned (.bool (nm == s)) /\ Ext W W':=by
 obtain ⟨q,hq⟩:∃ q,(nm.toList == s.toList) = q:=⟨_,rfl⟩;have HQ:Hid ((nm == s) = q):=Lib.hid (by rw [Go.beq_toListBytes]; exact hq)
 have hx:=Ext.box W (.cells #[.string nm,c1,c2,c3,c4] 90);have hB2:=hx.cell hB;have k0:=Blk.made W 90 #[.string nm,c1,c2,c3,c4];have c0:=k0.cell 0;simp only [Go.Tw.gA,Go.Tw.gB] at c0;clear hB k0;go_enter Tryz.func104,Tryz.ntmps104;go_wp2;go_ret;exact ⟨Q0w HQ.out.symm,hx⟩
theorem X3g (w:World) (l:List Mem) (n:Nat) (A:Option Addr) (cap B:Nat) (s:ByteArray) (hB:w.cell? ⟨B,0,none⟩ = some (.string s)) (hn:n <= 17592186043904)
    (hc:∀ k,k < n -> ∃ b off c1 c2 c3 c4,A = some ⟨b,off,none⟩ /\ w.cell? ⟨b,off + k * 5,none⟩ = some (.string (Q1g l k)) /\ w.cell? ⟨b,off + k * 5 + 1,none⟩ = some c1 /\ w.cell? ⟨b,off + k * 5 + 2,none⟩ = some c2 /\ w.cell? ⟨b,off + k * 5 + 3,none⟩ = some c3 /\ w.cell? ⟨b,off + k * 5 + 4,none⟩ = some c4) :
    Calls Tryz.prog 158 #[.slice A n cap,.func (.func 104) #[] #[.pointer (some ⟨B,0,none⟩)]] w fun e w'=>∃ r:Int,e = .returned (.int .i64 r) /\ decide (0 <= r) = ((List.range n).any fun k=>Q1g l k == s) /\ Ext w w':=by
 have HC:=Lib.hid hc;obtain ⟨p,hp⟩:∃ p:Nat -> Bool,(fun k=>Q1g l k == s) = p:=⟨_,rfl⟩
 have HP:Hid (∀ k,(Q1g l k == s) = p k):=Lib.hid (fun k=>by rw [<- hp])
 rw [hp];clear hc hp;go_enter Tryz.func158,Tryz.ntmps158;go_wp2
 go_loopw [8] (fun i wr=>∃ k:Nat,k <= n /\ i = .int .i64 k /\ ((List.range n).drop k).any p = (List.range n).any p /\ Ext w wr) (fun i _=>n - (intOf i).toNat)
 case atStart=>exact ⟨0,Nat.zero_le _,rfl,rfl,Ext.refl _⟩
 case round =>
  obtain ⟨k,hk,rfl,hr,hx⟩:=hrel;have HR:=Lib.hid hr; clear hr
  by_cases hlt:k < n
  . obtain ⟨b,off,c1,c2,c3,c4,rfl,e0,e1,e2,e3,e4⟩:=HC.out k hlt
    replace e0:=hx.cell e0;replace e1:=hx.cell e1;replace e2:=hx.cell e2;replace e3:=hx.cell e3;replace e4:=hx.cell e4;have hB2:=hx.cell hB;have HST:Hid ((List.range n).any p = (p k || ((List.range n).drop (k + 1)).any p)):=Lib.hid (by
     rw [<- HR.out,List.drop_eq_getElem_cons (by simpa using hlt),List.any_cons,List.getElem_range])
    have HPK:=Lib.hid (HP.out k);obtain ⟨nm,hnm⟩:∃ x,Q1g l k = x:=⟨_,rfl⟩;rw [hnm] at HPK e0;have HCL:=Lib.hid (Y1q wr nm s c1 c2 c3 c4 B hB2);rw [HPK.out] at HCL;obtain ⟨q,hq⟩:∃ q,p k = q:=⟨_,rfl⟩;rw [hq] at HCL HST;clear hq hnm hB2;cases q with
    | true =>
      go_wp2_with (refine HCL.out.mono ?_; rintro e w9 ⟨rfl,hx9⟩);go_ret;exact ⟨k,rfl,by rw [HST.out]; simp,hx.trans hx9⟩
    | false =>
      go_wp2_with (refine HCL.out.mono ?_; rintro e w9 ⟨rfl,hx9⟩);go_roundw
      case rel=>exact ⟨k + 1,by omega,by go_num,by rw [HST.out,Bool.false_or],hx.trans hx9⟩
      case measure=>simp [intOf]; omega
  . go_wp2
    go_ret;exact ⟨-1,rfl,by rw [<- HR.out,List.drop_eq_nil_of_le (by simp; omega)]; rfl,hx⟩
theorem Y5d (w:World) (l:List Mem) (n:Nat) (A:Option Addr) (cap B:Nat) (s:ByteArray) (hB:w.cell? ⟨B,0,none⟩ = some (.string s)) (hn:n <= 17592186043904)
    (hc:∀ k,k < n -> ∃ b off c1 c2 c3 c4,A = some ⟨b,off,none⟩ /\ w.cell? ⟨b,off + k * 5,none⟩ = some (.string (Q1g l k)) /\ w.cell? ⟨b,off + k * 5 + 1,none⟩ = some c1 /\ w.cell? ⟨b,off + k * 5 + 2,none⟩ = some c2 /\ w.cell? ⟨b,off + k * 5 + 3,none⟩ = some c3 /\ w.cell? ⟨b,off + k * 5 + 4,none⟩ = some c4) :
    Calls Tryz.prog 103 #[.slice A n cap,.func (.func 104) #[] #[.pointer (some ⟨B,0,none⟩)]] w fun e w'=>e = .returned (.bool ((List.range n).any fun k=>Q1g l k == s)) /\ Ext w w':=by
 have HI:=Lib.hid (X3g w l n A cap B s hB hn hc);obtain ⟨q,hq⟩:∃ q,((List.range n).any fun k=>Q1g l k == s) = q:=⟨_,rfl⟩
 rw [hq] at HI ⊢;clear hc hq hB;go_enter Tryz.func103,Tryz.ntmps103;go_wp2_with (go_at_call 158; refine HI.out.mono ?_; rintro e w' ⟨r,rfl,hr,hx⟩; have HR:=Lib.hid hr; clear hr);go_ret;exact ⟨Q0w HR.out,hx⟩
end Go.Proofs
namespace Go.Tw
variable {s:Q0c}
instance lawB:LawfulBEq ByteArray where
 eq_of_beq {a b} h:=by
  by_cases e:a = b
  . exact e
  . rw [X3w e] at h; exact absurd h (by simp)
 rfl {a}:=str_eq rfl
end Go.Tw
namespace Go.Tw
variable {s:Q0c}
def Q2v (s:Q0c) (n:Nat):List Rul:=(List.range s.hist.length).map fun i=>⟨s.hist.getD i [],n.testBit i⟩
def Best (need:Int) (l:List (Int × Int × Int)) (r:Option (Int × Int)):Prop:=match r with
 | none=>∀ t ∈ l,t.1 < need
 | some (a,b)=>(∃ t ∈ l,need <= t.1 /\ t.2.1 = a /\ t.2.2 = b) /\ ∀ t ∈ l,need <= t.1 -> a < t.2.1 ∨ a = t.2.1 /\ b <= t.2.2
end Go.Tw
namespace Go.Tw
variable {s:Q0c}
theorem Q4f (p:List Rul) (l:List Int):(Q0u p l).length = l.length:=by simp [Q0u]
end Go.Tw
namespace Go.Proofs
open Go.RowKit Go.Tw Go.Flow
theorem X6a (m:Mem) (l:List Bool) {k:Nat} (hk:k < l.length) (lv:Int):m.Q3n k lv (l.drop k) = (m.stepT k lv (bx l k)).1 :: m.Q3n (k + 1) (m.stepT k lv (bx l k)).2 (l.drop (k + 1)):=by
 rw [Z3v hk]; rfl
theorem Q8s (m:Mem):∀ (l:List Bool) (t:Nat) (lv:Int),(m.Q3n t lv l).length = l.length
 | [],_,_=>rfl
 | _ :: l,t,lv=>by
   unfold Mem.Q3n;rw [List.length_cons,List.length_cons,Q8s m l]
theorem Q5n (m:Mem) (l:List Bool):(m.Q2y l).length = l.length:=Q8s m l 0 0
end Go.Proofs
namespace Go.Proofs
open Go.RowKit Go.Tw Go.Flow
theorem Y2p (w:World) (v:Value) (l:List Int) (g:Nat) (c:Value) (p:Int -> Bool) (hv:Q0b w v l) (eg:∀ args w,(callFunc g args).run Tryz.prog w = .ok (.enter g args) w)
    (hp:∀ W x,Ext w W -> x ∈ l -> Calls Tryz.prog g #[.int .i64 x,c] W fun e W'=>e = .returned (.bool (p x)) /\ Ext W W') :
    Calls Tryz.prog 198 #[v,.func (.func g) #[] #[c]] w fun e w'=>∃ r:Int,e = .returned (.int .i64 r) /\ decide (0 <= r) = l.any p /\ Ext w w':=by
 obtain ⟨A,cap,rfl,hl,hcap,hc⟩:=hv.opened;have HP:=Lib.hid hp;have HC:=Lib.hid hc;clear hv hp hc;go_enter Tryz.func198,Tryz.ntmps198;go_wp2
 go_loopw [8] (fun i wr=>∃ k:Nat,k <= l.length /\ i = .int .i64 k /\ (l.drop k).any p = l.any p /\ Ext w wr) (fun i _=>l.length - (intOf i).toNat)
 case atStart=>exact ⟨0,Nat.zero_le _,rfl,rfl,Ext.refl _⟩
 case round =>
  obtain ⟨k,hk,rfl,hr,hx⟩:=hrel;have HR:=Lib.hid hr; clear hr
  by_cases hlt:k < l.length
  . obtain ⟨b,off,rfl,hcell⟩:=HC.out k hlt
    replace hcell:=hx.cell hcell;have hmem:ix l k ∈ l:=by rw [Q6r hlt]; exact List.getElem_mem hlt
    have hd:=Q2e hlt;have HST:Hid (l.any p = (p (ix l k) || (l.drop (k + 1)).any p)):=Lib.hid (by rw [<- HR.out,hd,List.any_cons])
    obtain ⟨y,hy⟩:∃ y,ix l k = y:=⟨_,rfl⟩;have HPY:=Lib.hid (HP.out wr (ix l k) hx hmem);rw [hy] at HPY hcell HST;obtain ⟨q,hq⟩:∃ q,p y = q:=⟨_,rfl⟩;rw [hq] at HPY HST;clear hq hy hd hmem;cases q with
    | true =>
      go_wp2_with (refine HPY.out.mono ?_; rintro e w9 ⟨rfl,hx9⟩);go_ret;exact ⟨k,rfl,by rw [HST.out]; simp,hx.trans hx9⟩
    | false =>
      go_wp2_with (refine HPY.out.mono ?_; rintro e w9 ⟨rfl,hx9⟩);go_roundw
      case rel=>exact ⟨k + 1,by omega,by go_num,by rw [HST.out,Bool.false_or],hx.trans hx9⟩
      case measure=>simp [intOf]; omega
  . go_wp2
    go_ret;exact ⟨-1,rfl,by rw [<- HR.out,List.drop_eq_nil_of_le (by omega)]; rfl,hx⟩
theorem X5i (w:World) (v:Value) (l:List Int) (g:Nat) (c:Value) (p:Int -> Bool) (hv:Q0b w v l) (eg:∀ args w,(callFunc g args).run Tryz.prog w = .ok (.enter g args) w)
    (hp:∀ W x,Ext w W -> x ∈ l -> Calls Tryz.prog g #[.int .i64 x,c] W fun e W'=>e = .returned (.bool (p x)) /\ Ext W W') :
    Calls Tryz.prog 167 #[v,.func (.func g) #[] #[c]] w fun e w'=>e = .returned (.bool (l.any p)) /\ Ext w w':=by
 have HI:=Lib.hid (Y2p w v l g c p hv eg hp);obtain ⟨A,cap,rfl,hl,hcap,hc⟩:=hv.opened;obtain ⟨q,hq⟩:∃ q,l.any p = q:=⟨_,rfl⟩;rw [hq] at HI ⊢;clear hv hc hp hq;go_enter Tryz.func167,Tryz.ntmps167;go_wp2_with (go_at_call 198; refine HI.out.mono ?_; rintro e w' ⟨r,rfl,hr,hx⟩; have HR:=Lib.hid hr; clear hr);go_ret;exact ⟨Q0w HR.out,hx⟩
def X4z (w:World) (v:Value) (m:Mem):Prop:=∃ x y z,v = .agg #[.string m.name,.int .i64 m.weight,x,y,z] /\ Q0b w x m.classes /\ Q0b w y m.outside /\ Q0b w z m.inflow
theorem X4z.ext {w w':World} {v:Value} {m:Mem} (h:X4z w v m) (hx:Ext w w'):X4z w' v m:=let ⟨x,y,z,e,h1,h2,h3⟩:=h; ⟨x,y,z,e,h1.ext hx,h2.ext hx,h3.ext hx⟩
structure OkM (m:Mem) (n:Nat):Prop where
 out:n <= m.outside.length
 inf:n <= m.inflow.length
 bd:∀ k,k < m.inflow.length -> 0 <= ix m.inflow k /\ ix m.inflow k <= 1024
theorem Y8d (w:World) (v:Value) (m:Mem) (t:Nat) (n:Int) (c:Bool) (hv:X4z w v m) (ho:t < m.outside.length) (hi:t < m.inflow.length) (hn:0 <= n /\ n <= 100000) (hb:0 <= ix m.inflow t /\ ix m.inflow t <= 1024) :
    Calls Tryz.prog 97 #[v,.int .i64 (t:Int),.int .i64 n,.bool c] w fun e w'=>e = .returned (.tuple #[.int .i64 (m.stepT t n c).1,.int .i64 (m.stepT t n c).2]) /\ Ext w w':=by
 obtain ⟨x,y,z,rfl,hx,hy,hz⟩:=hv;obtain ⟨X,capx,rfl,-,-,-⟩:=hx.opened;obtain ⟨Y,capy,rfl,-,-,hcY⟩:=hy.opened;obtain ⟨Z,capz,rfl,-,-,hcZ⟩:=hz.opened;obtain ⟨by',oy,rfl,hcy⟩:=hcY t ho
 obtain ⟨bz,oz,rfl,hcz⟩:=hcZ t hi;have hbox:=Ext.box w (.cells #[.string m.name,.int .i64 m.weight,.slice X m.classes.length capx,.slice (some ⟨by',oy,none⟩) m.outside.length capy,.slice (some ⟨bz,oz,none⟩) m.inflow.length capz] 90)
 have K0:=Blk.made w 90 #[.string m.name,.int .i64 m.weight,.slice X m.classes.length capx,.slice (some ⟨by',oy,none⟩) m.outside.length capy,.slice (some ⟨bz,oz,none⟩) m.inflow.length capz]
 have c0:=(K0).cell 0;have c1:=(K0).cell 1;have c2:=(K0).cell 2;have c3:=(K0).cell 3;have c4:=(K0).cell 4;simp only [Go.Tw.gA,Go.Tw.gB,Go.Tw.gC] at c0 c1 c2 c3 c4;replace hcy:=hbox.cell hcy;replace hcz:=hbox.cell hcz;have htO:(t:Int) < m.outside.length:=by omega
 have htI:(t:Int) < m.inflow.length:=by omega
 clear hx hy hz hcY hcZ K0;cases c with
 | true =>
   have HS:Hid (m.stepT t n true = (n + ix m.inflow t,n + ix m.inflow t)):=Lib.hid rfl;have hwr:IntKind.i64.wrap (n + ix m.inflow t) = n + ix m.inflow t:=X6m _ (by omega) (by omega)
   rw [HS.out];obtain ⟨d,hd⟩:∃ d,ix m.inflow t = d:=⟨_,rfl⟩;rw [hd] at hcz hwr ⊢;clear hd hb;go_enter Tryz.func97,Tryz.ntmps97;go_wp2;go_ret2;exact ⟨rfl,hbox⟩
 | false =>
   have HS:Hid (m.stepT t n false = (ix m.outside t,0)):=Lib.hid rfl;rw [HS.out];clear hb;go_enter Tryz.func97,Tryz.ntmps97;go_wp2;go_ret2;exact ⟨rfl,hbox⟩
theorem Z1p {m:Mem} {t:Nat} {n:Int} {c:Bool} {k:Nat} (hn:0 <= n /\ n <= 1024 * k) (hb:0 <= ix m.inflow t /\ ix m.inflow t <= 1024):0 <= (m.stepT t n c).2 /\ (m.stepT t n c).2 <= 1024 * ((k + 1:Nat):Int):=by
 unfold Mem.stepT;cases c with
 | true=>simp only [if_true]; omega
 | false=>simp only [Bool.false_eq_true,if_false]; omega
theorem X0v (w:World) (v u:Value) (m:Mem) (l:List Bool) (hv:X4z w v m) (hu:Q2c w u l) (hl9:l.length <= 9) (hm:OkM m l.length) :
    Calls Tryz.prog 49 #[v,u] w fun e w'=>∃ x,e = .returned x /\ Q0b w' x (m.Q2y l) /\ Ext w w':=by
 obtain ⟨i0,hi,hz0,hz1,hz2⟩:=info_parts Tryz.info3;have HV:=Lib.hid hv;obtain ⟨x,y,z,rfl,hx,hy,hz⟩:=hv;obtain ⟨X,capx,rfl,-,-,-⟩:=hx.opened;obtain ⟨Y,capy,rfl,-,-,-⟩:=hy.opened;obtain ⟨Z,capz,rfl,-,-,-⟩:=hz.opened;obtain ⟨U,capu,rfl,-,-,hcU⟩:=hu.opened;have HCU:=Lib.hid hcU;have HM:=Lib.hid hm;clear hx hy hz hcU hu hm;go_enter Tryz.func49,Tryz.ntmps49;go_wp2_with fail;change Code.wp _ _ _ _ (w.alloc (.cells #[.string m.name,.int .i64 m.weight,.slice X m.classes.length capx,.slice Y m.outside.length capy,.slice Z m.inflow.length capz] 90));obtain ⟨W,hWW,k0,HXW,eW⟩:=Q2q w 90 #[.string m.name,.int .i64 m.weight,.slice X m.classes.length capx,.slice Y m.outside.length capy,.slice Z m.inflow.length capz];rw [hWW];clear hWW;have K0:=Lib.hid k0;clear k0
 go_loopw [5,6,13] (fun o lv t wr=>∃ (k:Nat) (n:Int) (pk:List Int),k <= l.length /\ t = .int .i64 k /\ lv = .int .i64 n /\ (0 <= n /\ n <= 1024 * k) /\ pk.length = k /\ pk ++ m.Q3n k n (l.drop k) = m.Q2y l /\ Q0g wr W.heap.size 3 (.int .i64) o pk /\ Ext W wr) (fun _ _ t _=>l.length - (intOf t).toNat)
 case atStart=>exact ⟨0,0,[],Nat.zero_le _,rfl,rfl,⟨Int.le_refl _,by omega⟩,rfl,rfl,Q0g.nil _ _ _ _,Ext.refl _⟩
 case round =>
  obtain ⟨k,n,pk,hk,rfl,rfl,hn,hpk,hr,hown,hx⟩:=hrel;have HR:=Lib.hid hr;have HN:=Lib.hid hn;have HPK:=Lib.hid hpk;clear hr
  by_cases hlt:k < l.length
  . obtain ⟨bu,ou,rfl,-,hcu⟩:=HCU.out k hlt
    replace hcu:=(HXW.out.trans hx).cell hcu;have hst:=X6a m l hlt n;have hbd:=HM.out.bd k (by have:=HM.out.inf; omega)
    have HLB:=Lib.hid (Z1p (c:=bx l k) hn hbd);have HCALL:=Lib.hid (fun wr (hx:Ext w wr)=>Y8d wr _ m k n (bx l k) (HV.out.ext hx) (by have:=HM.out.out; omega) (by have:=HM.out.inf; omega) ⟨hn.1,by omega⟩ hbd)
    obtain ⟨c,hc⟩:∃ c,bx l k = c:=⟨_,rfl⟩;rw [hc] at hcu hst HLB HCALL;obtain ⟨P,hP⟩:∃ P,(m.stepT k n c).1 = P:=⟨_,rfl⟩;obtain ⟨Q,hQ⟩:∃ Q,(m.stepT k n c).2 = Q:=⟨_,rfl⟩;rw [hP,hQ] at hst HCALL;rw [hQ] at HLB;have HST:=Lib.hid hst;have c0:=(K0.out.ext hx).cell 0;have c1:=(K0.out.ext hx).cell 1;have c2:=(K0.out.ext hx).cell 2;have c3:=(K0.out.ext hx).cell 3;have c4:=(K0.out.ext hx).cell 4;simp only [Go.Tw.gA,Go.Tw.gB,Go.Tw.gC] at c0 c1 c2 c3 c4;have hkI:(k:Int) < l.length:=by omega
    have HXX:=Lib.hid hx;have HOW:=Lib.hid hown;have hll:pk.length <= 4096:=by omega
    clear hst hP hQ hc hn hbd hown hpk hx
    go_light
    go_wp2_with (first | (go_at_call 97; refine (HCALL.out _ (HXW.out.trans HXX.out)).mono ?_; rintro e w5 ⟨rfl,hx5⟩; have hown:=HOW.out.below hx5; have hx6:=HXX.out.trans hx5) | (at_builtin; refine wpList_append_own _ rfl _ _ 44 rfl (W.heap.size) 3 i0 (.int .i64 0) 1 8 Tryz.underlying44 hi hz0 hz1 hz2 rfl (by decide) _ _ _ rfl (World.ownsRow.alloc hown _) ⟨w5.heap.size,0,none⟩ 1 1 [.int .i64 P] rfl rfl ?_ ?_ ?_ ?_ ?_ ?_; exact Q4h _ _ _; (focus (simp [Value.oneCell'])); (focus (unfold maxLen; omega)); (focus omega); (focus (have:=hx6.size; simp at this ⊢; omega)); intro v' w1 hown' hgrow _))
    have hx2:=Q2r hx6 hown (Nat.le_refl _) hgrow;go_roundw
    case rel=>exact ⟨k + 1,Q,pk ++ [P],by omega,by go_num,rfl,HLB.out,by rw [List.length_append,HPK.out]; rfl,by rw [<- HR.out,HST.out]; simp,Q0g.snoc hown',hx2⟩
    case measure=>simp [intOf]; omega
  . have HF:Hid (pk = m.Q2y l):=Lib.hid (by rw [<- HR.out,List.drop_eq_nil_of_le (by omega)]; simp [Mem.Q3n])
    go_wp2;go_ret;exact ⟨_,rfl,by rw [<- HF.out]; exact hown.ints (by omega),HXW.out.trans hx⟩
theorem Y2s (W:World) (x lim:Int) (B:Nat) (hB:W.cell? ⟨B,0,none⟩ = some (.int .i64 lim)) :
    Calls Tryz.prog 168 #[.int .i64 x,.pointer (some ⟨B,0,none⟩)] W fun e W'=>e = .returned (.bool (decide (lim < x))) /\ Ext W W':=by
 go_enter Tryz.func168,Tryz.ntmps168;go_wp2;go_ret;exact ⟨rfl,Ext.refl _⟩
theorem Y4x (w:World) (v u:Value) (m:Mem) (lim:Int) (l:List Bool) (hv:X4z w v m) (hu:Q2c w u l) (hl9:l.length <= 9) (hm:OkM m l.length) :
    Calls Tryz.prog 121 #[v,.int .i64 lim,u] w fun e w'=>e = .returned (.bool (m.keeps lim l)) /\ Ext w w':=by
 have HV:=Lib.hid hv;obtain ⟨x,y,z,rfl,hx,hy,hz⟩:=hv;obtain ⟨X,capx,rfl,-,-,-⟩:=hx.opened;obtain ⟨Y,capy,rfl,-,-,-⟩:=hy.opened;obtain ⟨Z,capz,rfl,-,-,-⟩:=hz.opened;have HU:=Lib.hid hu;obtain ⟨U,capu,rfl,-,-,-⟩:=hu.opened;have HM:=Lib.hid hm;have HKE:Hid (m.keeps lim l = !((m.Q2y l).any fun x=>decide (lim < x))):=Lib.hid rfl;have HPL:=Lib.hid (Q5n m l);clear hx hy hz hu hm;go_enter Tryz.func121,Tryz.ntmps121;go_wp2_with fail;change Calls _ _ _ ((w.alloc (.cells #[.string m.name,.int .i64 m.weight,.slice X m.classes.length capx,.slice Y m.outside.length capy,.slice Z m.inflow.length capz] 90)).alloc (.cells #[.int .i64 lim] 3)) _;obtain ⟨W,hWW,k0,k1,HXW,eW⟩:=Q5t w 90 #[.string m.name,.int .i64 m.weight,.slice X m.classes.length capx,.slice Y m.outside.length capy,.slice Z m.inflow.length capz] 3 #[.int .i64 lim];rw [hWW];clear hWW;have K1:=Lib.hid k1;clear k0 k1;refine (X0v _ _ _ m l (HV.out.ext HXW.out) (HU.out.ext HXW.out) hl9 HM.out).mono ?_;rintro e w5 ⟨pv,rfl,hp,hx5⟩;have HCF:=Lib.hid (X5i w5 pv (m.Q2y l) 168 (.pointer (some ⟨w.heap.size + 1,0,none⟩)) (fun x=>decide (lim < x)) hp (enters_of Tryz.func168 (by kernel_rfl) rfl) (fun W' x hx _=>Y2s W' x lim _ ((K1.out.ext (hx5.trans hx)).cell 0)))
 obtain ⟨q,hq⟩:∃ q,((m.Q2y l).any fun x=>decide (lim < x)) = q:=⟨_,rfl⟩
 rw [hq] at HCF HKE;obtain ⟨P,capp,rfl,-,-,-⟩:=hp.opened;have HX5:=Lib.hid (HXW.out.trans hx5);clear hp hx5 hq;go_wp2_with (go_at_call 167; refine HCF.out.mono ?_; rintro e w6 ⟨rfl,hx6⟩);go_ret;exact ⟨Q0w HKE.out.symm,HX5.out.trans hx6⟩
end Go.Proofs
namespace Go.Tw
open Go.RowKit Go.Flow
def Off (O:Nat) (w w':World):Prop:=Below O w w' /\ w.heap.size <= w'.heap.size /\ ∀ b,b < w.heap.size -> b ≠ O -> w'.heap[b]? = w.heap[b]?
theorem Off.refl (O:Nat) (w:World):Off O w w:=⟨Below.refl _ _,Nat.le_refl _,fun _ _ _=>rfl⟩
theorem Off.ext {O:Nat} {a b c:World} (h:Off O a b) (hx:Ext b c) (hO:O <= b.heap.size):Off O a c :=
 ⟨h.1.trans (hx.mono hO),Nat.le_trans h.2.1 hx.size,fun k hk hne=>(Below.block hx k (Nat.lt_of_lt_of_le hk h.2.1)).trans (h.2.2 k hk hne)⟩
theorem Off.grown {O base n size:Nat} {e:TypeId} {v:Value} {xs:List Value} {a b c:World} (h:Off O a b) (hown:b.ownsRow base e size v n xs) (hb:a.heap.size <= base) (hO:O <= a.heap.size) (hg:b.grownBy c v.ownBlock):Off O a c:=by
 have hbel:Below O b c:=Below.grown (Below.refl _ _) hg (Nat.le_trans hO h.2.1) (fun k hk=>by have:=(hown.lt k hk).1; omega)
 have hbel2:Below a.heap.size b c:=Below.grown (Below.refl _ _) hg h.2.1 (fun k hk=>by have:=(hown.lt k hk).1; omega)
 exact ⟨h.1.trans hbel,Nat.le_trans h.2.1 hbel2.size,fun k hk hne=>(hbel2.block k hk).trans (h.2.2 k hk hne)⟩
theorem Off.set {O:Nat} {a b:World} (h:Off O a b) (k:Nat) (u:Value):Off O a (b.setCell ⟨O,k,none⟩ u) :=
 ⟨h.1.setCell (p:=⟨O,k,none⟩) (Nat.le_refl _) u,by simpa using h.2.1,fun j hj hne=>(Below.heap_setCell _ _ _ _ hne).trans (h.2.2 j hj hne)⟩
theorem Q1r.off {α:Type} {w w':World} {base O k:Nat} {e:TypeId} {enc:α -> List Value} {v:Value} {l:List α} (h:Q1r w base e k enc v l) (hO:O < base) (hx:Off O w w'):Q1r w' base e k enc v l:=by
 obtain ⟨h1,h2⟩:=h;refine ⟨h1,?_⟩
 rcases h2 with h2 | ⟨g,cap,cur,hv,hb,hg,r⟩
 . exact .inl h2
 . exact .inr ⟨g,cap,cur,hv,hb,by rw [hx.2.2 g (Array.getElem?_eq_some_iff.1 hg).1 (by omega)]; exact hg,r⟩
theorem Q1r.setCell {α:Type} {w:World} {base k:Nat} {e:TypeId} {enc:α -> List Value} {v:Value} {l:List α} (h:Q1r w base e k enc v l) {p:Addr} (hp:p.block < base) (u:Value):Q1r (w.setCell p u) base e k enc v l :=
 h.only hp (X1z w p u)
theorem Q2k {w w':World} {v cv:Value} {l:List Int} {base n size:Nat} {T e:TypeId} {xs:List Value} (h:Q0g w 0 T (Value.int .i64) v l) (hown:w.ownsRow base e size cv n xs) (he:e ≠ T) (hg:w.grownBy w' cv.ownBlock):Q0g w' 0 T (Value.int .i64) v l:=by
 obtain ⟨h1,h2⟩:=h;refine ⟨h1,?_⟩
 rcases h2 with h2 | ⟨g,cap,cur,hv,hb,hgl,r⟩
 . exact .inl h2
 . refine .inr ⟨g,cap,cur,hv,hb,?_,r⟩
   rw [hg.block g (Array.getElem?_eq_some_iff.1 hgl).1 ?_]; exact hgl;intro e'
   rcases hown.2 with ⟨rfl,_⟩ | ⟨g',_,cur',rfl,_,hg',_⟩
   . cases e'
   . have e2:g = g':=by simpa [Value.ownBlock] using e'
     rw [e2,hg'] at hgl;injection hgl with hgl;injection hgl with _ h3 _;exact he h3
theorem Q3m {w w':World} {cv:Value} {base n size g:Nat} {T e:TypeId} {cs:Array Value} {xs:List Value} (h:Blk w g T cs) (hown:w.ownsRow base e size cv n xs) (hb:g < base) (hg:w.grownBy w' cv.ownBlock):Blk w' g T cs:=by
 unfold Blk at *;rw [hg.block g (Array.getElem?_eq_some_iff.1 h).1 ?_]; exact h;intro e';have:=(hown.lt g e'.symm).1;omega
theorem Q3e {w:World} {v u:Value} {l:List Int} {O k:Nat} {T S:TypeId} {cs:Array Value} (h:Q0g w 0 T (Value.int .i64) v l) (hb:Blk w O S cs) (hT:S ≠ T):Q0g (w.setCell ⟨O,k,none⟩ u) 0 T (Value.int .i64) v l:=by
 obtain ⟨h1,h2⟩:=h;refine ⟨h1,?_⟩
 rcases h2 with h2 | ⟨g,cap,cur,hv,hbb,hgl,r⟩
 . exact .inl h2
 . refine .inr ⟨g,cap,cur,hv,hbb,?_,r⟩
   rw [Below.heap_setCell _ _ _ _ ?_]; exact hgl;intro e';have e2:g = O:=e';unfold Blk at hb;rw [e2,hb] at hgl;injection hgl with hgl;injection hgl with _ h3 _;exact hT h3
theorem Q1r.rowsOf {α β:Type} {w:World} {base:Nat} {e:TypeId} {k:Nat} {enc:α -> List Value} {v:Value} {L:List α} {l:List β} {R:World -> (Nat -> Value) -> β -> Prop} (h:Q1r w base e k enc v L) (hlen:L.length = l.length) (hl:l.length <= 17592186043904)
    (hk:∀ x,(enc x).length = k) (hR:∀ j (h1:j < L.length) (h2:j < l.length),R w (fun i=>((enc L[j])[i]?).getD undef) l[j]) (hloc:∀ c c' x,(∀ i,i < k -> c i = c' i) -> R w c x -> R w c' x):Go.Tw.Rows k R w v l:=by
 refine ⟨fun j=>((L.flatMap enc)[j]?).getD undef,?_,fun j hj=>hloc _ _ _ (fun i hi=>?_) (hR j (by omega) hj)⟩
 . obtain ⟨_,h2⟩:=h
   rw [hlen] at h2
   rcases h2 with ⟨rfl,h0⟩ | ⟨g,cap,cur,rfl,_,hg,hcap,_,_,htake⟩
   . exact ⟨none,0,by rw [h0],hl,by omega,fun j hj=>by rw [h0,Nat.zero_mul] at hj; omega⟩
   . refine ⟨some ⟨g,0,none⟩,cap,rfl,hl,hcap,fun j hj=>⟨g,0,rfl,?_⟩⟩
     rw [Nat.zero_add];have h1:=congrArg (fun l=>l[j]?) htake;simp only [List.getElem?_take,hj,if_true] at h1;have hlt:j < (L.flatMap enc).length:=by rw [Q3h hk,hlen]; exact hj
     rw [List.getElem?_eq_getElem hlt] at h1;simp only [World.cell?,hg,List.getElem?_eq_getElem hlt,Option.getD_some]
     simpa using h1
 . show ((enc L[j])[i]?).getD undef = ((L.flatMap enc)[j * k + i]?).getD undef
   rw [flat_get hk L j i (by omega) hi]
theorem Q6h {α:Type} {P:Program} {K:Value -> World -> Prop} {o:Oper} {a:Act} {w:World} (s x:Operand) (t:TypeId) (ho:o.op = .call { callee:=.builtin .append,args:=#[s,x],argTypes:=#[t,t] })
    (base:Nat) (e:TypeId) (i:TypeInfo) (z:Value) (k bytes:Nat) (ht:P.underlying t = some (.slice e)) (hi:P.info? e = some i) (hz:i.zero = some z) (hsize:i.size = k) (hby:i.bytes = bytes) (hzs:z.cells.size = k) (hk0:0 < k)
    (enc:α -> List Value) (hk:∀ x,(enc x).length = k) (v:Value) (xs:List α) (y:α) (hs:a.eval s = v) (hown:Q1r w base e k enc v xs) (ad:Addr) (c:Nat) (hx:a.eval x = .slice (some ad) 1 c)
    (hnews:∀ j u,(enc y)[j]? = some u -> w.cell? (ad.add j) = some u) (h1:∀ u ∈ enc y,u.oneCell' = true)
    (h63:xs.length + 1 <= 100000) (hb:bytes <= 1000) (hbase:base <= w.heap.size)
    (h:∀ v' w',Q1r w' base e k enc v' (xs ++ [y]) -> w.grownBy w' v.ownBlock -> K v' w'):gives P K ((execOp a.eval o).run P w):=by
 obtain ⟨v',w',hr,h2,h3,h4⟩:=run_append_own (P:=P) w base t o.type e i z k bytes ht hi hz hsize hby hzs hk0 v xs.length (xs.flatMap enc) hown ad 1 c (enc y) (by rw [hk]; omega) hnews h1 (by unfold maxLen; omega) (by
     have:(xs.length + 1) * bytes <= 100000 * 1000:=Nat.mul_le_mul h63 hb;omega) hbase
 unfold execOp;simp only [ho,resolve,invoke,builtin,Sem.run_bind,Sem.run_pure,Result.andThen_ok,List.map_toArray,List.map_cons,List.map_nil,hs,hx,hr];exact h v' w' (Q1r.snoc h2) h3
theorem X2w {w:World} {g:Nat} {T:TypeId} {xs:List Value} (h:Blk w g T xs.toArray):∀ j u,xs[j]? = some u -> w.cell? ((⟨g,0,none⟩:Addr).add j) = some u:=by
 intro j u hu;rw [addr_add,Nat.zero_add,h.cell]
 simpa using hu
end Go.Tw
namespace Go.Proofs
open Go.RowKit Go.Tw Go.Flow
theorem Q0s {P:Program} {K:Value -> World -> Prop} {o:Oper} {a:Act} {w:World} (p:Operand) (T:TypeId) (ho:o.op = .load T p) (hA:∀ w,(isAgg T).run P w = .ok true w) {n:Nat} (hS:∀ w,(sizeOf T).run P w = .ok n w)
    {g:Nat} (hp:a.eval p = .pointer (some ⟨g,0,none⟩)) {BT:TypeId} {cs:Array Value} (hb:Blk w g BT cs) (hn:cs.size = n) (h:K (.agg cs) w):gives P K ((execOp a.eval o).run P w):=by
 subst hn;unfold execOp;simp only [ho,hp,Instr.loadAt,Instr.sureAddr,Sem.run_bind,Sem.run_pure,Result.andThen_ok,Q3v hb hA hS];exact h
theorem Q3x {P:Program} {K:Value -> World -> Prop} {o:Oper} {a:Act} {w:World} (p x:Operand) (T:TypeId) (ho:o.op = .store T p x)
    {n:Nat} (hS:∀ w,(sizeOf T).run P w = .ok n w) {g:Nat} (hp:a.eval p = .pointer (some ⟨g,0,none⟩)) {BT:TypeId} {cs vs:Array Value} (hx:a.eval x = .agg vs) (hb:Blk w g BT cs) (hn:cs.size = n) (hv:vs.size = n) (h1:∀ u ∈ vs.toList,u.oneCell' = true)
    (h:∀ v w',Blk w' g BT vs -> (∀ n,n <= g -> Below n w w') -> (∀ k,k ≠ g -> w'.heap[k]? = w.heap[k]?) -> K v w'):gives P K ((execOp a.eval o).run P w):=by
 obtain ⟨w',hr,hb',hl,hoo⟩:=Q7b (P:=P) vs.toList 0 w cs hb h1 (by simp [hn,hv])
 have hs:(storeVar T ⟨g,0,none⟩ (.agg vs)).run P w = .ok () w':=by
  have hc:(Value.agg vs).cells = vs:=rfl;unfold storeVar;simp only [Sem.run_bind,hS,Result.andThen_ok];rw [if_neg (by rw [hc]; simp [hv])]
  exact hr
 have hr2:(execOp a.eval o).run P w = .ok .skip w':=by
  unfold execOp;simp only [ho,hp,hx,Instr.storeAt,Instr.sureAddr,Sem.run_bind,Sem.run_pure,Result.andThen_ok,hs]
 rw [hr2];exact h _ _ (by simpa using hb') hl hoo
theorem Q5d {P:Program} {w:World} {ops:Array Oper} {rest:List Oper} {o:Oper} {a:Act} {Q:Exit -> Act -> World -> Prop} (hg:o.guard = none)
    (h:gives P (fun u w'=>wpList P ops Q rest (a.put o.dst u) w') ((execOp a.eval o).run P w)):wpList P ops Q (o :: rest) a w :=
 wpList_plain hg fun K' hK'=>by
  unfold Oper.wp;exact Q4l (X1b (fun _ _ hk=>hK' _ _ hk) h)
theorem X0r {K:Value -> World -> Prop} {o:Oper} {a:Act} {w:World} (x:Operand) (t e:TypeId) (ho:o.op = .makeSlice t x x) (i:TypeInfo) (z:Value) (k bytes:Nat) (ht:Tryz.prog.underlying t = some (.slice e)) (hi:Tryz.prog.info? e = some i) (hz:i.zero = some z) (hs:i.size = k) (hby:i.bytes = bytes)
    (n:Nat) (hx:a.eval x = .int .i64 n) (hn:n <= 1000) (hb:bytes <= 1000)
    (h:K (.slice (some ⟨w.heap.size,0,none⟩) n n) (w.alloc (.cells (madeCells z.cells (n * k)) e))):gives Tryz.prog K ((execOp a.eval o).run Tryz.prog w):=by
 have hnb:bytes * n <= 1000 * 1000:=Nat.mul_le_mul hb hn;have hr:=run_make (P:=Tryz.prog) w t e i z ht hi hz .i64 .i64 n n (by omega) (Int.le_refl _) (by rw [hby]; have:((bytes * n:Nat):Int) <= 1000000:=(by omega); rw [Int.natCast_mul] at this; omega) (by omega)
 simp only [Int.toNat_natCast,hs] at hr;unfold execOp;simp only [ho,hx,Sem.run_bind,hr,Result.andThen_ok,Sem.run_pure];exact h
theorem X0f {P:Program} {w:World} {ops:Array Oper} {rest:List Oper} {o:Oper} {a:Act} {Q:Exit -> Act -> World -> Prop} (hg:o.guard = none) (p x:Operand) (T:TypeId) (hop:o.op = .store T p x)
    (hT:∀ w,(sizeOf T).run P w = .ok 1 w) {g k:Nat} (hp:a.eval p = .pointer (some ⟨g,k,none⟩)) {u:Value} (hx:a.eval x = u) (hu:u.cells = #[u]) (h1:u.oneCell' = true) {BT:TypeId} {cs:Array Value} (hb:Blk w g BT cs) (hk:k < cs.size)
    (hK:∀ w',Blk w' g BT (cs.setIfInBounds k u) -> (∀ n,n <= g -> Below n w w') -> (∀ k,k ≠ g -> w'.heap[k]? = w.heap[k]?) -> wpList P ops Q rest (a.put o.dst undef) w'):wpList P ops Q (o :: rest) a w:=by
 refine wpList_plain hg fun K' hK'=>?_;unfold Oper.wp;have h0:=hb.cell k;rw [Array.getElem?_eq_getElem hk] at h0;have hs:(storeVar T ⟨g,k,none⟩ u).run P w = .ok () (w.setCell ⟨g,k,none⟩ u):=by
  unfold storeVar;simp only [Sem.run_bind,hT,Result.andThen_ok,hu];rw [if_neg (by simp)]
  simp only [storeCells,Sem.run_bind,Sem.run_pure];have ea:(⟨g,k,none⟩:Addr).add 0 = ⟨g,k,none⟩:=by rw [addr_add,Nat.add_zero]
  rw [ea,run_store P w _ u _ h1];simp only [h0,hb.frozen k,Bool.false_eq_true,if_false,Result.andThen_ok]
 have hr2:(execOp a.eval o).run P w = .ok .skip (w.setCell ⟨g,k,none⟩ u):=by
  unfold execOp;simp only [hop,hp,hx,Instr.storeAt,Instr.sureAddr,Sem.run_bind,Sem.run_pure,Result.andThen_ok,hs]
 rw [hr2];exact hK' _ _ (hK _ (hb.set k u) (fun n hn=>(Below.refl n w).setCell (p:=⟨g,k,none⟩) hn u) (fun k' hk'=>Below.heap_setCell _ _ _ _ hk'))
end Go.Proofs
namespace Go.Proofs
open Go.RowKit Go.Tw Go.Flow
attribute [local go_sem] Oper.semAt_some
theorem Tryz.X9v (w:World):(isAgg 305).run Tryz.prog w = .ok true w:=by kernel_rfl
theorem Tryz.X4v (w:World):(sizeOf 305).run Tryz.prog w = .ok 9 w:=by kernel_rfl
theorem Y3l (w:World) (kd:ByteArray) (f t a r u ar td:Int) (o:Bool) (hb:PlB a r u ar td) :
    Calls Tryz.prog 200 #[plV kd f t a r u ar td o] w fun e w'=>e = .returned (.int .i64 (if o then max (-u) ((ar * td - u) / r) else 0)) /\ Ext w w':=by
 have HPB:=Lib.hid hb;have hv:=hb.v;have w1:IntKind.i64.wrap (-u) = -u:=Q1t (by omega) (by omega)
 clear hv hb;cases o with
 | false =>
   have hbox:=Ext.box w (.cells (plC kd f t a r u ar td false) 305);have K0:=Blk.made w 305 (plC kd f t a r u ar td false);have c0:=(K0).cell 0;have c1:=(K0).cell 1;have c2:=(K0).cell 2;have c3:=(K0).cell 3;have c4:=(K0).cell 4;have c5:=(K0).cell 5;have c6:=(K0).cell 6;have c7:=(K0).cell 7;have c8:=(K0).cell 8;simp only [Go.Tw.gA,Go.Tw.gB,Go.Tw.gC] at c0 c1 c2 c3 c4 c5 c6 c7 c8;clear K0;go_enter Tryz.func200,Tryz.ntmps200;go_wp2;go_ret;exact ⟨rfl,hbox⟩
 | true =>
   obtain ⟨q,hq⟩:∃ z,(ar * td - u) / r = z:=⟨_,rfl⟩;have HF:=Lib.hid (fun W:World=>X4h W kd f t a r u ar td true HPB.out);rw [hq] at HF;simp only [if_true];rw [hq];clear hq;go_enter Tryz.func200,Tryz.ntmps200;go_wp2_with fail;obtain ⟨W,hWW,k0,HXW,eW⟩:=Q2q w 305 #[.string kd,.int .i64 f,.int .i64 t,.int .i64 a,.int .i64 r,.int .i64 u,.int .i64 ar,.int .i64 td,.bool true];rw [hWW];clear hWW;obtain ⟨g,hg⟩:∃ x,w.heap.size = x:=⟨_,rfl⟩;rw [hg] at k0 eW ⊢;have K0:=Lib.hid k0;clear k0 hg;have hdr:=(Ext.refl W).drew;refine Flow.Q1p [.p,.w,.p,.w,.w,.w,.p] [0,1,2,3,4,5,6] [[],[0],[1],[],[3],[2,4],[0,1,2,3,4,5]]
    [.c 0 (.pointer (some ⟨g,5,none⟩)),.c 1 (.int .i64 u),.c 2 (.int .i64 (-u)),.c 3 (plV kd f t a r u ar td true),.c 4 (.int .i64 q),.c 5 (.int .i64 (if -u < q then q else -u)),.c 6 (.int .i64 (if -u < q then q else -u))]
    (by kernel_rfl) rfl (by kernel_rfl) ⟨?g0,?g1,?g2,?g3,?g4,?g5,?g6,trivial⟩ ?post
   case g0=>
    intro v w1 hx;intro bb hbb;subst hbb;refine ⟨_,fun w=>?_,rfl⟩;go_simp
   case g1=>
    intro v w1 hx;(repeat intro (zq:v _ = _));intro bb hbb;subst hbb;have n0:w1.cell? ⟨g,5,none⟩ = some (.int .i64 u):=(K0.out.ext (hdr.trans hx)).cell 5;intro K hK;go_simp;exact hK _ _ (Ext.refl _) rfl
   case g2 | g6=>
    intro v w1 hx;(repeat intro (zq:v _ = _));intro bb hbb;subst hbb;refine ⟨_,fun w=>?_,rfl⟩;go_simp
   case g3=>
    intro v w1 hx;intro bb hbb;intro K2 hK2;have o1:bb.eval (.tmp 1) = .pointer (some ⟨g,0,none⟩):=by rw [hbb]; dsimp only; (try simp (discharger:=decide) only [eval_put_ne]); rfl
    exact Q0s (.tmp 1) _ rfl Tryz.X9v Tryz.X4v o1 (K0.out.ext (hdr.trans hx)) rfl (hK2 _ _ (Ext.refl _) rfl)
   case g4=>
    intro v w1 hx;(repeat intro (zq:v _ = _));intro bb hbb;subst hbb;intro K2 hK2;go_simp;refine Q0d (HF.out w1) ?_;rintro e w2 ⟨rfl,hx2⟩;exact ⟨_,rfl,hK2 _ _ hx2 rfl⟩
   case g5=>
    intro v w1 hx;(repeat intro (zq:v _ = _));intro bb hbb;subst hbb;intro K hK;go_simp;exact hK _ _ (Ext.refl _) rfl
   case post =>
    intro v w1 hx;(iterate 7 intro (zq:v _ = _));simp only [Flow.All,Flow.acts,Act.put];go_simp;have hxx:=HXW.out.trans (hdr.trans hx);have HX9:=Lib.hid hxx;clear hx hdr hxx;(repeat clear zq);go_wp2
    all_goals go_ret
    all_goals exact ⟨Q0q (by omega),HX9.out⟩
theorem Y4i (w:World) (kd:ByteArray) (f t a r v ar td:Int) (o:Bool) (x:Int) (hb:PlB a r v ar td) (hx:-4096 <= x /\ x <= 4096) :
    Calls Tryz.prog 204 #[plV kd f t a r v ar td o,.int .i64 x] w fun e w'=>e = .returned (.int .i64 (max 0 ((v - ar * x) / r))) /\ Ext w w':=by
 have hbox:=Ext.box w (.cells (plC kd f t a r v ar td o) 305);have K0:=Blk.made w 305 (plC kd f t a r v ar td o);have hm:=Y1s hb.ar hx;have h1:=hb.v;have h2:=hb.r;have w1:IntKind.i64.wrap (ar * x) = ar * x:=Q1t (by omega) (by omega)
 have w2:IntKind.i64.wrap (v - ar * x) = v - ar * x:=Q1t (by omega) (by omega)
 have HF:=Lib.hid (fun W:World=>X9r W (v - ar * x) r (by omega) (by omega))
 have c0:=(K0).cell 0;have c1:=(K0).cell 1;have c2:=(K0).cell 2;have c3:=(K0).cell 3;have c4:=(K0).cell 4;have c5:=(K0).cell 5;have c6:=(K0).cell 6;have c7:=(K0).cell 7;have c8:=(K0).cell 8;simp only [Go.Tw.gA,Go.Tw.gB,Go.Tw.gC] at c0 c1 c2 c3 c4 c5 c6 c7 c8;clear hb hm h1 h2 K0 hx;go_enter Tryz.func204,Tryz.ntmps204;go_wp2_with fail;refine (HF.out _).mono ?_;rintro e w2 ⟨rfl,hw⟩;subst hw;go_wp2
 all_goals go_ret
 all_goals exact ⟨Q0q (by omega),hbox⟩
theorem Z1c (w:World) (kd:ByteArray) (f t a r v ar td:Int) (o:Bool) (hb:PlB a r v ar td) :
    Calls Tryz.prog 201 #[plV kd f t a r v ar td o] w fun e w'=>e = .returned (.int .i64 (max 0 ((ar * td - v) / r))) /\ Ext w w':=by
 have hbox:=Ext.box w (.cells (plC kd f t a r v ar td o) 305);have K0:=Blk.made w 305 (plC kd f t a r v ar td o);have HF:=Lib.hid (fun W:World=>X4h W kd f t a r v ar td o hb);have c0:=(K0).cell 0;have c1:=(K0).cell 1;have c2:=(K0).cell 2;have c3:=(K0).cell 3;have c4:=(K0).cell 4;have c5:=(K0).cell 5;have c6:=(K0).cell 6;have c7:=(K0).cell 7;have c8:=(K0).cell 8;simp only [Go.Tw.gA,Go.Tw.gB,Go.Tw.gC] at c0 c1 c2 c3 c4 c5 c6 c7 c8;clear hb;go_enter Tryz.func201,Tryz.ntmps201;go_wp2_with (refine Q0j rfl _ _ rfl Tryz.X9v Tryz.X4v rfl K0 rfl ?_);refine (HF.out _).mono ?_;rintro e w2 ⟨rfl,hw⟩;have HX:=Lib.hid (hbox.trans hw);clear hw hbox;go_wp2
 all_goals go_ret
 all_goals exact ⟨Q0q (by omega),HX.out⟩
theorem Y1u (w:World) (kd:ByteArray) (f t a r v ar td:Int) (o:Bool) (hb:PlB a r v ar td) :
    Calls Tryz.prog 203 #[plV kd f t a r v ar td o] w fun e w'=>e = .returned (.int .i64 (max 0 ((v - ar * max td a) / r))) /\ Ext w w':=by
 have hbox:=Ext.box w (.cells (plC kd f t a r v ar td o) 305);have K0:=Blk.made w 305 (plC kd f t a r v ar td o);have h1:=hb.a;have h2:=hb.td;obtain ⟨x,hx⟩:∃ z,max td a = z:=⟨_,rfl⟩;have HF:=Lib.hid (fun W:World=>Y4i W kd f t a r v ar td o x hb (by omega))
 rw [hx];have c0:=(K0).cell 0;have c1:=(K0).cell 1;have c2:=(K0).cell 2;have c3:=(K0).cell 3;have c4:=(K0).cell 4;have c5:=(K0).cell 5;have c6:=(K0).cell 6;have c7:=(K0).cell 7;have c8:=(K0).cell 8;simp only [Go.Tw.gA,Go.Tw.gB,Go.Tw.gC] at c0 c1 c2 c3 c4 c5 c6 c7 c8;clear hb h1 h2
 by_cases hlt:td < a
 . obtain rfl:a = x:=by omega
   clear hx;go_enter Tryz.func203,Tryz.ntmps203;go_wp2_with (refine Q0j rfl _ _ rfl Tryz.X9v Tryz.X4v rfl K0 rfl ?_);refine (HF.out _).mono ?_;rintro e w2 ⟨rfl,hw⟩;have HX:=Lib.hid (hbox.trans hw);clear hw hbox;go_wp2;go_ret;exact ⟨rfl,HX.out⟩
 . obtain rfl:td = x:=by omega
   clear hx;go_enter Tryz.func203,Tryz.ntmps203;go_wp2_with (refine Q0j rfl _ _ rfl Tryz.X9v Tryz.X4v rfl K0 rfl ?_);refine (HF.out _).mono ?_;rintro e w2 ⟨rfl,hw⟩;have HX:=Lib.hid (hbox.trans hw);clear hw hbox;go_wp2;go_ret;exact ⟨rfl,HX.out⟩
theorem Y9n (w:World) (kd:ByteArray) (f t a r v ar td:Int) (o:Bool) (hb:PlB a r v ar td) :
    Calls Tryz.prog 205 #[plV kd f t a r v ar td o] w fun e w'=>e = .returned (.int .i64 (max 0 (min r (v - ar * a)))) /\ Ext w w':=by
 have hbox:=Ext.box w (.cells (plC kd f t a r v ar td o) 305);have K0:=Blk.made w 305 (plC kd f t a r v ar td o);have h1:=hb.v;have h2:=hb.a;have hm:=Y1s hb.ar (y:=a) (c:=1024) (by omega)
 have w1:IntKind.i64.wrap (ar * a) = ar * a:=Q1t (by omega) (by omega)
 have w2:IntKind.i64.wrap (v - ar * a) = v - ar * a:=Q1t (by omega) (by omega)
 have c0:=(K0).cell 0;have c1:=(K0).cell 1;have c2:=(K0).cell 2;have c3:=(K0).cell 3;have c4:=(K0).cell 4;have c5:=(K0).cell 5;have c6:=(K0).cell 6;have c7:=(K0).cell 7;have c8:=(K0).cell 8;simp only [Go.Tw.gA,Go.Tw.gB,Go.Tw.gC] at c0 c1 c2 c3 c4 c5 c6 c7 c8;clear hb h1 h2 hm K0;go_enter Tryz.func205,Tryz.ntmps205;go_wp2
 all_goals go_ret
 all_goals exact ⟨Q0q (by omega),hbox⟩
theorem Z0r (w:World) (kd:ByteArray) (f t a r v ar td:Int) (o:Bool) (hb:PlB a r v ar td) :
    Calls Tryz.prog 206 #[plV kd f t a r v ar td o] w fun e w'=>e = .returned (.int .i64 (max 0 ((v - ar * a) / r))) /\ Ext w w':=by
 have hbox:=Ext.box w (.cells (plC kd f t a r v ar td o) 305);have K0:=Blk.made w 305 (plC kd f t a r v ar td o);have h1:=hb.a;have HF:=Lib.hid (fun W:World=>Y4i W kd f t a r v ar td o a hb (by omega))
 have c0:=(K0).cell 0;have c1:=(K0).cell 1;have c2:=(K0).cell 2;have c3:=(K0).cell 3;have c4:=(K0).cell 4;have c5:=(K0).cell 5;have c6:=(K0).cell 6;have c7:=(K0).cell 7;have c8:=(K0).cell 8;simp only [Go.Tw.gA,Go.Tw.gB,Go.Tw.gC] at c0 c1 c2 c3 c4 c5 c6 c7 c8;clear hb h1;go_enter Tryz.func206,Tryz.ntmps206;go_wp2_with (refine Q0j rfl _ _ rfl Tryz.X9v Tryz.X4v rfl K0 rfl ?_);refine (HF.out _).mono ?_;rintro e w2 ⟨rfl,hw⟩;have HX:=Lib.hid (hbox.trans hw);clear hw hbox;go_wp2
 all_goals go_ret
 all_goals exact ⟨rfl,HX.out⟩
abbrev lkC (kd:ByteArray) (f t a r:Int):Array Value:=#[.string kd,.int .i64 f,.int .i64 t,.int .i64 a,.int .i64 r]
abbrev lkV (kd:ByteArray) (f t a r:Int):Value:=.agg (lkC kd f t a r)
theorem Z0y (w:World) (kd:ByteArray) (f t a r:Int) :
    Calls Tryz.prog 208 #[lkV kd f t a r] w fun e w'=>e = .returned (.int .i64 (if f = -1 then t else f)) /\ Ext w w':=by
 have hbox:=Ext.box w (.cells (lkC kd f t a r) 106);have K0:=Blk.made w 106 (lkC kd f t a r);have c0:=(K0).cell 0;have c1:=(K0).cell 1;have c2:=(K0).cell 2;have c3:=(K0).cell 3;have c4:=(K0).cell 4;simp only [Go.Tw.gA,Go.Tw.gB,Go.Tw.gC] at c0 c1 c2 c3 c4;clear K0
 by_cases hf:f = -1
 . have hfb:(f == -1) = true:=by simp [hf]
   rw [if_pos hf];clear hf;go_enter Tryz.func208,Tryz.ntmps208;go_wp2;go_ret;exact ⟨rfl,hbox⟩
 . have hfb:(f == -1) = false:=by simp [hf]
   rw [if_neg hf];clear hf;go_enter Tryz.func208,Tryz.ntmps208;go_wp2;go_ret;exact ⟨rfl,hbox⟩
end Go.Proofs
namespace Go.Ba
structure Cd where
 tide:Int
 opn:Bool
 inflow:Vol
structure Cd.le (c d:Cd):Prop where
 tide:c.tide <= d.tide
 opn:c.opn = d.opn
 inflow:leV c.inflow d.inflow
def okB (v:Vol) (i:Int):Bool:=decide (i < 0) || decide (v i.toNat <= 100000000)
def inV (v:Vol) (n:Nat) (x:Vol):Vol:=fun k=>if k < n then v k + x k else v k
def inB (v:Vol) (n:Nat) (x:Vol):Bool:=(List.range n).all fun k=>decide (v k + x k <= 100000000)
def Z2a (area:Vol) (t:Int) (o:Bool):List Lk -> Vol -> Vol
 | [],v=>v
 | l :: ls,v=>Z2a area t o ls (l.step area t o v)
def Z1w (area:Vol) (t:Int) (o:Bool):List Lk -> Vol -> Bool
 | [],_=>true
 | l :: ls,v=>okB (l.mid area t o v) l.src && okB (l.step area t o v) l.dst && Z1w area t o ls (l.step area t o v)
structure Bs where
 n:Nat
 area:Vol
 limit:Vol
 links:List Lk
structure Bs.Ok (b:Bs):Prop where
 area:∀ k,1 <= b.area k
 links:∀ l ∈ b.links,l.Fits b.n
def Bs.step (b:Bs) (c:Cd) (v:Vol):Vol:=Z2a b.area c.tide c.opn b.links (inV v b.n c.inflow)
def Bs.fine (b:Bs) (c:Cd) (v:Vol):Bool:=inB v b.n c.inflow && Z1w b.area c.tide c.opn b.links (inV v b.n c.inflow)
def Bs.run (b:Bs):List Cd -> Vol -> Option (List Vol)
 | [],_=>some []
 | c :: cs,v=>if b.fine c v then (b.run cs (b.step c v)).map (b.step c v :: ·) else none
inductive LeC:List Cd -> List Cd -> Prop
 | nil:LeC [] []
 | cons {c d:Cd} {cs ds:List Cd}:c.le d -> LeC cs ds -> LeC (c :: cs) (d :: ds)
inductive LeR:List Vol -> List Vol -> Prop
 | nil:LeR [] []
 | cons {v w:Vol} {vs ws:List Vol}:leV v w -> LeR vs ws -> LeR (v :: vs) (w :: ws)
def Bs.wet (b:Bs) (v:Vol):Bool:=(List.range b.n).any fun k=>decide (b.limit k < v k / b.area k)
structure Rg where
 lo:Int
 hi:Int
 ilo:Vol
 ihi:Vol
def Z6d:List Rg -> Nat -> List Cd
 | [],_=>[]
 | r :: rs,k=>⟨r.hi,decide (0 < k),r.ihi⟩ :: Z6d rs (k - 1)
def Bs.safe (b:Bs) (v:Vol) (rs:List Rg) (k:Nat):Option Bool:=(b.run (Z6d rs k) v).map fun R=>!R.any b.wet
def Bs.latest (b:Bs) (v:Vol) (rs:List Rg):Nat -> Option (Option Nat)
 | 0=>(b.safe v rs 0).map fun q=>if q then some 0 else none
 | k + 1=>(b.safe v rs (k + 1)).bind fun q=>if q then some (some (k + 1)) else b.latest v rs k
end Go.Ba
namespace Go.Tw
open Go.RowKit
structure X3v where
 name:ByteArray
 area:Int
 limit:Int
structure Q4r where
 kind:ByteArray
 src:Int
 dst:Int
 lev:Int
 rate:Int
instance:Inhabited X3v:=⟨⟨⟨#[]⟩,0,0⟩⟩
instance:Inhabited Q4r:=⟨⟨⟨#[]⟩,0,0,0,0⟩⟩
structure Q1b where
 nodes:List X3v
 links:List Q4r
structure Cond where
 tide:Int
 opn:Bool
 inflow:List Int
instance:Inhabited Cond:=⟨⟨0,false,[]⟩⟩
def Y9c (_:World) (c:Nat -> Value) (x:X3v):Prop:=c 0 = .string x.name /\ c 1 = .int .i64 x.area /\ c 2 = .int .i64 x.limit /\ Short x.name
def Y7c (_:World) (c:Nat -> Value) (x:Q4r):Prop:=c 0 = .string x.kind /\ c 1 = .int .i64 x.src /\ c 2 = .int .i64 x.dst /\ c 3 = .int .i64 x.lev /\ c 4 = .int .i64 x.rate /\ Short x.kind
def Y6u (w:World) (c:Nat -> Value) (x:Cond):Prop:=c 0 = .int .i64 x.tide /\ c 1 = .bool x.opn /\ Q0b w (c 2) x.inflow
theorem Y9c.ext (w w':World) (c:Nat -> Value) (x:X3v) (_:Ext w w') (h:Y9c w c x):Y9c w' c x:=h
theorem Y7c.ext (w w':World) (c:Nat -> Value) (x:Q4r) (_:Ext w w') (h:Y7c w c x):Y7c w' c x:=h
theorem Y6u.ext (w w':World) (c:Nat -> Value) (x:Cond) (hx:Ext w w') (h:Y6u w c x):Y6u w' c x:=⟨h.1,h.2.1,h.2.2.ext hx⟩
def X1k:World -> Value -> List X3v -> Prop:=Rows 3 Y9c
def Q7z:World -> Value -> List Q4r -> Prop:=Rows 5 Y7c
def Q1v:World -> Value -> List Cond -> Prop:=Rows 3 Y6u
theorem X1k.ext {w w':World} {v:Value} {l:List X3v} (h:X1k w v l) (hx:Ext w w'):X1k w' v l:=Rows.ext Y9c.ext h hx
theorem Q7z.ext {w w':World} {v:Value} {l:List Q4r} (h:Q7z w v l) (hx:Ext w w'):Q7z w' v l:=Rows.ext Y7c.ext h hx
theorem Q1v.ext {w w':World} {v:Value} {l:List Cond} (h:Q1v w v l) (hx:Ext w w'):Q1v w' v l:=Rows.ext Y6u.ext h hx
def Q4x (l:List X3v) (k:Nat):Int:=(l.getD k default).area
def Q9m (l:List X3v) (k:Nat):Int:=(l.getD k default).limit
def X2i (l:List X3v) (k:Nat):ByteArray:=(l.getD k default).name
def lk (l:List Q4r) (k:Nat):Q4r:=l.getD k default
def cd (l:List Cond) (k:Nat):Cond:=l.getD k default
theorem X1k.opened {w:World} {v:Value} {l:List X3v} (h:X1k w v l) :
    ∃ A cap,v = .slice A l.length cap /\ l.length <= 17592186043904 /\ l.length <= cap /\ ∀ k,k < l.length -> ∃ b off,A = some ⟨b,off,none⟩ /\ b < w.heap.size /\
     w.cell? ⟨b,off + k * 3,none⟩ = some (.string (X2i l k)) /\ w.cell? ⟨b,off + k * 3 + 1,none⟩ = some (.int .i64 (Q4x l k)) /\ w.cell? ⟨b,off + k * 3 + 2,none⟩ = some (.int .i64 (Q9m l k)) /\ Short (X2i l k):=by
 obtain ⟨c,⟨A,cap,hv,hn,hcap,hc⟩,h2⟩:=h;refine ⟨A,cap,hv,hn,hcap,fun k hk=>?_⟩;obtain ⟨b,off,hA,h0⟩:=hc (k * 3) (by omega)
 obtain ⟨b',off',hA',h1⟩:=hc (k * 3 + 1) (by omega)
 rw [hA] at hA'; cases hA';obtain ⟨b',off',hA',h3⟩:=hc (k * 3 + 2) (by omega)
 rw [hA] at hA'; cases hA';obtain ⟨e0,e1,e2,e3⟩:=h2 k hk;simp only [Nat.add_zero] at e0 e1 e2;have hd:l.getD k default = l[k]:=by simp [hk]
 refine ⟨b,off,hA,World.block_lt_of_cell? w _ h0,?_,?_,?_,?_⟩
 . rw [h0,e0,X2i,hd]
 . rw [Nat.add_assoc,h1,e1,Q4x,hd]
 . rw [Nat.add_assoc,h3,e2,Q9m,hd]
 . rw [X2i,hd]; exact e3
theorem Q7z.opened {w:World} {v:Value} {l:List Q4r} (h:Q7z w v l) :
    ∃ A cap,v = .slice A l.length cap /\ l.length <= 17592186043904 /\ l.length <= cap /\ ∀ k,k < l.length -> ∃ b off,A = some ⟨b,off,none⟩ /\ b < w.heap.size /\
     w.cell? ⟨b,off + k * 5,none⟩ = some (.string (lk l k).kind) /\ w.cell? ⟨b,off + k * 5 + 1,none⟩ = some (.int .i64 (lk l k).src) /\ w.cell? ⟨b,off + k * 5 + 2,none⟩ = some (.int .i64 (lk l k).dst) /\
     w.cell? ⟨b,off + k * 5 + 3,none⟩ = some (.int .i64 (lk l k).lev) /\ w.cell? ⟨b,off + k * 5 + 4,none⟩ = some (.int .i64 (lk l k).rate) /\ Short (lk l k).kind:=by
 obtain ⟨c,⟨A,cap,hv,hn,hcap,hc⟩,h2⟩:=h;refine ⟨A,cap,hv,hn,hcap,fun k hk=>?_⟩;obtain ⟨b,off,hA,h0⟩:=hc (k * 5) (by omega)
 obtain ⟨b',off',hA',h1⟩:=hc (k * 5 + 1) (by omega)
 rw [hA] at hA'; cases hA';obtain ⟨b',off',hA',h3⟩:=hc (k * 5 + 2) (by omega)
 rw [hA] at hA'; cases hA';obtain ⟨b',off',hA',h4⟩:=hc (k * 5 + 3) (by omega)
 rw [hA] at hA'; cases hA';obtain ⟨b',off',hA',h5⟩:=hc (k * 5 + 4) (by omega)
 rw [hA] at hA'; cases hA';obtain ⟨e0,e1,e2,e3,e4,e5⟩:=h2 k hk;simp only [Nat.add_zero] at e0 e1 e2 e3 e4;have hd:l.getD k default = l[k]:=by simp [hk]
 refine ⟨b,off,hA,World.block_lt_of_cell? w _ h0,?_,?_,?_,?_,?_,?_⟩
 . rw [h0,e0,lk,hd]
 . rw [Nat.add_assoc,h1,e1,lk,hd]
 . rw [Nat.add_assoc,h3,e2,lk,hd]
 . rw [Nat.add_assoc,h4,e3,lk,hd]
 . rw [Nat.add_assoc,h5,e4,lk,hd]
 . rw [lk,hd]; exact e5
theorem Q1v.opened {w:World} {v:Value} {l:List Cond} (h:Q1v w v l) :
    ∃ A cap,v = .slice A l.length cap /\ l.length <= 17592186043904 /\ l.length <= cap /\ ∀ k,k < l.length -> ∃ b off x,A = some ⟨b,off,none⟩ /\ b < w.heap.size /\
     w.cell? ⟨b,off + k * 3,none⟩ = some (.int .i64 (cd l k).tide) /\ w.cell? ⟨b,off + k * 3 + 1,none⟩ = some (.bool (cd l k).opn) /\ w.cell? ⟨b,off + k * 3 + 2,none⟩ = some x /\ Q0b w x (cd l k).inflow:=by
 obtain ⟨c,⟨A,cap,hv,hn,hcap,hc⟩,h2⟩:=h;refine ⟨A,cap,hv,hn,hcap,fun k hk=>?_⟩;obtain ⟨b,off,hA,h0⟩:=hc (k * 3) (by omega)
 obtain ⟨b',off',hA',h1⟩:=hc (k * 3 + 1) (by omega)
 rw [hA] at hA'; cases hA';obtain ⟨b',off',hA',h3⟩:=hc (k * 3 + 2) (by omega)
 rw [hA] at hA'; cases hA';obtain ⟨e0,e1,e2⟩:=h2 k hk;simp only [Nat.add_zero] at e0 e1 e2;have hd:l.getD k default = l[k]:=by simp [hk]
 refine ⟨b,off,c (k * 3 + 2),hA,World.block_lt_of_cell? w _ h0,?_,?_,?_,?_⟩
 . rw [h0,e0,cd,hd]
 . rw [Nat.add_assoc,h1,e1,cd,hd]
 . rw [Nat.add_assoc,h3]
 . rw [cd,hd]; exact e2
structure Q5x (w:World) (a b:Value) (x:Q1b):Prop where
 nodes:X1k w a x.nodes
 links:Q7z w b x.links
theorem Q5x.ext {w w':World} {a b:Value} {x:Q1b} (h:Q5x w a b x) (hx:Ext w w'):Q5x w' a b x:=⟨h.nodes.ext hx,h.links.ext hx⟩
def Q1s (w:World) (v:Value) (x:Q1b):Prop:=∃ a b,v = .agg #[a,b] /\ Q5x w a b x
theorem Q1s.ext {w w':World} {v:Value} {x:Q1b} (h:Q1s w v x) (hx:Ext w w'):Q1s w' v x:=let ⟨a,b,e,h1⟩:=h; ⟨a,b,e,h1.ext hx⟩
def X6h (w:World) (v:Value) (x:Cond):Prop:=∃ a,v = .agg #[.int .i64 x.tide,.bool x.opn,a] /\ Q0b w a x.inflow
theorem X6h.ext {w w':World} {v:Value} {x:Cond} (h:X6h w v x) (hx:Ext w w'):X6h w' v x:=let ⟨a,e,h1⟩:=h; ⟨a,e,h1.ext hx⟩
end Go.Tw
namespace Go.Tw
open Go.Ba
def Q4j (V:List Int) (i n:Int):List Int:=if i < 0 then V else V.set i.toNat (ix V i.toNat + n)
def Q4y (V:List Int) (i:Int):Bool:=decide (i < 0) || decide (ix V i.toNat <= 100000000)
theorem Q9l (V:List Int) (i n:Int):(Q4j V i n).length = V.length:=by unfold Q4j; split <;> simp
theorem Y6r {V:List Int} {k:Nat} (h:V.length <= k):ix V k = 0:=by unfold ix; simp [List.getD_eq_getElem?_getD,h]
theorem Y4r (V:List Int) {k:Nat} (hk:k < V.length) (x:Int) (j:Nat):ix (V.set k x) j = if k = j then x else ix V j:=by
 unfold ix;simp only [List.getD_eq_getElem?_getD,List.getElem?_set]
 split
 . rename_i h; subst h; simp
 . rfl
def Q1y:ByteArray:=⟨#[98,97,114,114,105,101,114]⟩
def Y1g:ByteArray:=⟨#[108,101,97,107]⟩
def Q5e:ByteArray:=⟨#[111,117,116,102,97,108,108]⟩
def Y2u:ByteArray:=⟨#[112,117,109,112]⟩
def Y5s:ByteArray:=⟨#[119,101,105,114]⟩
def Y6c (s:ByteArray):Option Kd:=if s = Q1y then some .barrier else if s = Y1g then some .leak else if s = Q5e then some .outfall else if s = Y2u then some .pump else if s = Y5s then some .weir else none
def Q4r.Q9j (x:Q4r):Lk:=⟨(Y6c x.kind).getD .barrier,x.src,x.dst,x.lev,x.rate⟩
def Q5u (V X:List Int):Nat -> List Int × Bool
 | 0=>(V,true)
 | k + 1=>(Q4j (Q5u V X k).1 k (ix X k),(Q5u V X k).2 && Q4y (Q4j (Q5u V X k).1 k (ix X k)) k)
def Q2g (b:Q1b) (c:Cond) (k:Nat) (U:List Int):Int:=(lk b.links k).Q9j.flow (ix U (lk b.links k).Q9j.node.toNat) (Q4x b.nodes (lk b.links k).Q9j.node.toNat) c.tide c.opn
def Q3y (b:Q1b) (c:Cond) (U:List Int) (q:Bool):Nat -> List Int × Bool × List Int
 | 0=>(U,q,[])
 | k + 1 =>
   let r:=Q3y b c U q k
   let f:=Q2g b c k r.1
   let m:=Q4j r.1 (lk b.links k).src (-f)
   let o:=Q4j m (lk b.links k).dst f
   (o,(r.2.1 && Q4y m (lk b.links k).src) && Q4y o (lk b.links k).dst,r.2.2 ++ [f])
def Q3b (b:Q1b) (V:List Int) (c:Cond):List Int × Bool × List Int:=Q3y b c (Q5u V c.inflow c.inflow.length).1 (Q5u V c.inflow c.inflow.length).2 b.links.length
theorem Q5c (V X:List Int):∀ k,(Q5u V X k).1.length = V.length
 | 0=>rfl
 | k + 1=>by unfold Q5u; rw [Q9l,Q5c V X k]
theorem Q3w (b:Q1b) (c:Cond) (U:List Int) (q:Bool):∀ k,(Q3y b c U q k).1.length = U.length
 | 0=>rfl
 | k + 1=>by unfold Q3y; simp only [Q9l]; exact Q3w b c U q k
theorem Q5p (b:Q1b) (c:Cond) (U:List Int) (q:Bool):∀ k,(Q3y b c U q k).2.2.length = k
 | 0=>rfl
 | k + 1=>by unfold Q3y; simp [Q5p b c U q k]
structure Q1b.Ok (b:Q1b):Prop where
 some:1 <= b.nodes.length /\ b.nodes.length <= 8
 many:b.links.length <= 16
 areas:∀ k,k < b.nodes.length -> 1 <= Q4x b.nodes k /\ Q4x b.nodes k <= 1000
 limits:∀ k,k < b.nodes.length -> 0 <= Q9m b.nodes k /\ Q9m b.nodes k <= 1024
 kinds:∀ k,k < b.links.length -> Y6c (lk b.links k).kind ≠ none
 links:∀ k,k < b.links.length -> (lk b.links k).Q9j.Fits b.nodes.length
 levs:∀ k,k < b.links.length -> (lk b.links k).lev <= 1024 /\ (lk b.links k).rate <= 1000
def Bnd (V:List Int) (m:Int):Prop:=∀ k,0 <= ix V k /\ ix V k <= m
theorem Fits.Z2s {l:Lk} {n:Nat} (h:l.Fits n):(l.src = -1 ∨ (0 <= l.src /\ l.src < n)) /\ (l.dst = -1 ∨ (0 <= l.dst /\ l.dst < n)) /\ 0 <= l.node /\ l.node < n:=by
 have he:=h.ends;unfold Lk.node;cases hk:l.kind <;> rw [hk] at he <;> dsimp only at he
 . refine ⟨.inl he.1,.inr he.2,?_⟩; rw [if_pos he.1]; exact he.2
 . refine ⟨.inl he.1,.inr he.2,?_⟩; rw [if_pos he.1]; exact he.2
 . refine ⟨.inr he.2,.inl he.1,?_⟩; rw [if_neg (by omega)]; exact he.2
 . refine ⟨.inr ⟨he.2.1,he.2.2.1⟩,.inr he.2.2.2,?_⟩; rw [if_neg (by omega)]; exact ⟨he.2.1,he.2.2.1⟩
 . refine ⟨.inr ⟨he.2.1,he.2.2.1⟩,.inr he.2.2.2,?_⟩; rw [if_neg (by omega)]; exact ⟨he.2.1,he.2.2.1⟩
end Go.Tw
namespace Go.Proofs
open Go.RowKit Go.Tw Go.Flow
attribute [local go_sem] Oper.semAt_some
abbrev Y2o (V:List Int):Array Value:=(V.map (Value.int .i64)).toArray
theorem Q9b {w:World} {b:Nat} {V:List Int} (h:Blk w b 3 (Y2o V)) {k:Nat} (hk:k < V.length):w.cell? ⟨b,k,none⟩ = some (.int .i64 (ix V k)):=by
 rw [h.cell];simp [Y2o,hk,ix]
theorem X7x (V:List Int) (k:Nat) (x:Int):(Y2o V).setIfInBounds k (.int .i64 x) = Y2o (V.set k x):=by simp [Y2o,List.map_set]
structure StB (w:World) (go gb b:Nat) (V:List Int) (q:Bool):Prop where
 o:Blk w go 44 #[.slice (some ⟨b,0,none⟩) V.length V.length]
 q:Blk w gb 4 #[.bool q]
 r:Blk w b 3 (Y2o V)
theorem StB.ext {w w':World} {go gb b:Nat} {V:List Int} {q:Bool} (h:StB w go gb b V q) (hx:Ext w w'):StB w' go gb b V q:=⟨h.o.ext hx,h.q.ext hx,h.r.ext hx⟩
def Two (gb b:Nat) (w w':World):Prop:=(∀ M,M <= gb -> M <= b -> Below M w w') /\ ∀ k,k ≠ gb -> k ≠ b -> w'.heap[k]? = w.heap[k]?
theorem Q5w {w w':World} {b:Nat} {T:TypeId} {cs:Array Value} (h:Blk w b T cs) (ho:w'.heap[b]? = w.heap[b]?):Blk w' b T cs:=by unfold Blk at *; rw [ho]; exact h
theorem Y0t {w:World} {a b:Nat} {S T:TypeId} {cs ds:Array Value} (h:Blk w a S cs) (h2:Blk w b T ds) (hT:S ≠ T):a ≠ b:=by
 rintro rfl;unfold Blk at *;rw [h] at h2;injection h2 with h2;injection h2 with _ h3 _;exact hT h3
theorem Two.refl (gb b:Nat) (w:World):Two gb b w w:=⟨fun _ _ _=>Below.refl _ _,fun _ _ _=>rfl⟩
theorem Two.trans {gb b:Nat} {u v w:World} (h:Two gb b u v) (k:Two gb b v w):Two gb b u w:=⟨fun M h1 h2=>(h.1 M h1 h2).trans (k.1 M h1 h2),fun j h1 h2=>(k.2 j h1 h2).trans (h.2 j h1 h2)⟩
theorem X3u {w:World} {go gb b k:Nat} {V:List Int} {q q':Bool} {x:Int} (h:StB w go gb b V q) :
    StB ((w.setCell ⟨b,k,none⟩ (.int .i64 x)).setCell ⟨gb,0,none⟩ (.bool q')) go gb b (V.set k x) q' /\ Two gb b w ((w.setCell ⟨b,k,none⟩ (.int .i64 x)).setCell ⟨gb,0,none⟩ (.bool q')):=by
 have n1:go ≠ b:=Y0t h.o h.r (by decide)
 have n2:go ≠ gb:=Y0t h.o h.q (by decide)
 have n3:gb ≠ b:=Y0t h.q h.r (by decide)
 have o1:∀ j,j ≠ b -> (w.setCell ⟨b,k,none⟩ (.int .i64 x)).heap[j]? = w.heap[j]?:=fun j hj=>Below.heap_setCell _ _ _ _ hj;have o2:∀ j,j ≠ gb -> ((w.setCell ⟨b,k,none⟩ (.int .i64 x)).setCell ⟨gb,0,none⟩ (.bool q')).heap[j]? = (w.setCell ⟨b,k,none⟩ (.int .i64 x)).heap[j]?:=fun j hj=>Below.heap_setCell _ _ _ _ hj;refine ⟨⟨?_,?_,?_⟩,fun M h1 h2=>?_,fun j h1 h2=>(o2 j h1).trans (o1 j h2)⟩
 . rw [List.length_set]; exact Q5w h.o ((o2 go n2).trans (o1 go n1))
 . exact (Q5w h.q (o1 gb n3)).set 0 (.bool q')
 . have:=h.r.set k (.int .i64 x)
   rw [X7x] at this;exact Q5w this (o2 b n3.symm)
 . exact ((Below.refl M w).setCell (p:=⟨b,k,none⟩) h2 _).setCell (p:=⟨gb,0,none⟩) h1 _
theorem add_any (w:World) (i n:Int) (go gb b:Nat) (V:List Int) (q:Bool) (h:StB w go gb b V q) (hi:i = -1 ∨ (0 <= i /\ i < V.length)) (hbd:∀ k,k < V.length -> -4000000000000000000 <= ix V k + n /\ ix V k + n <= 4000000000000000000) :
    Calls Tryz.prog 207 #[.int .i64 i,.int .i64 n,.pointer (some ⟨go,0,none⟩),.pointer (some ⟨gb,0,none⟩)] w fun e w'=>e = .returned (.tuple #[]) /\ StB w' go gb b (Q4j V i n) (q && Q4y (Q4j V i n) i) /\ Two gb b w w':=by
 rcases hi with rfl | ⟨h0,h1⟩
 . have e1:Q4j V (-1) n = V:=if_pos (by decide)
   have e2:Q4y V (-1) = true:=rfl;have HR:Hid (StB w go gb b (Q4j V (-1) n) (q && Q4y (Q4j V (-1) n) (-1)) /\ Two gb b w w):=Lib.hid ⟨by rw [e1,e2,Bool.and_true]; exact h,Two.refl _ _ _⟩
   clear h hbd e1 e2;go_enter Tryz.func207,Tryz.ntmps207;go_wp2
   go_end0
   exact ⟨rfl,HR.out⟩
 . obtain ⟨k,rfl⟩:∃ z:Nat,i = (z:Int):=⟨i.toNat,by omega⟩
   have hk:k < V.length:=by omega
   have HS:=Lib.hid h;have n3:gb ≠ b:=Y0t h.q h.r (by decide)
   have c0:=h.o.cell 0;have c1:=h.q.cell 0;have ck:=Q9b h.r hk;have fz:=h.r.frozen k;simp only [Go.Tw.gA,Go.Tw.gB] at c0 c1;have hw1:=hbd k hk;obtain ⟨x,hx⟩:∃ z,ix V k = z:=⟨_,rfl⟩;rw [hx] at ck hw1;have HX:=Lib.hid hx;have hw2:IntKind.i64.wrap (x + n) = x + n:=Q1t (by omega) (by omega)
   have hkI:(k:Int) < V.length:=by omega
   have hne:((k:Int) != -1) = true:=by simp
   obtain ⟨N,hN⟩:∃ z,V.length = z:=⟨_,rfl⟩;rw [hN] at c0 hk hkI;have HK:=Lib.hid hk;have hneg:¬ (k:Int) = -1:=by omega
   have HE:Hid (Q4j V (k:Int) n = V.set k (x + n) /\ Q4y (V.set k (x + n)) (k:Int) = decide (x + n <= 100000000)):=Lib.hid (by
    refine ⟨?_,?_⟩
    . unfold Q4j; rw [if_neg (by omega),Int.toNat_natCast,hx]
    . unfold Q4y
      rw [Int.toNat_natCast,show decide ((k:Int) < 0) = false from decide_eq_false (by omega),Bool.false_or]
      congr 1
      simp [ix,hN ▸ hk])
   clear h hbd hx hw1 h0 h1;rw [HE.out.1,HE.out.2];go_enter Tryz.func207,Tryz.ntmps207;go_upto_region 2 with fail;have hs1:=HS.out.r.set k (.int .i64 (x + n));obtain ⟨w1,hw1⟩:∃ y,w.setCell ⟨b,k,none⟩ (.int .i64 (x + n)) = y:=⟨_,rfl⟩;have o1:∀ j,j ≠ b -> w1.heap[j]? = w.heap[j]?:=fun j hj=>by rw [<- hw1]; exact Below.heap_setCell _ _ _ _ hj
   have k0:=Q5w HS.out.o (o1 go (Y0t HS.out.o HS.out.r (by decide)))
   have k1:=Q5w HS.out.q (o1 gb n3);rw [X7x] at hs1;rw [hw1] at hs1 ⊢;have HW:=Lib.hid hw1;have fz2:=k1.frozen 0;have ck2:=Q9b hs1 (k:=k) (by rw [List.length_set,hN]; exact HK.out)
   have e3:ix (V.set k (x + n)) k = x + n:=by simp [ix,hN,HK.out]
   rw [e3] at ck2;replace c0:=k0.cell 0;replace c1:=k1.cell 0;simp only [Go.Tw.gA,Go.Tw.gB] at c0 c1;rw [hN] at c0;clear hs1 o1 k0 k1 ck fz hw1 e3 hw2;cases q with
   | false =>
     go_wp2
     go_end0
     exact ⟨rfl,by rw [<- HW.out]; exact X3u HS.out⟩
   | true =>
     by_cases hle:x + n <= 100000000
     . have hd:decide (x + n <= 100000000) = true:=decide_eq_true hle
       have HD:=Lib.hid hd;go_wp2
       go_end0
       exact ⟨rfl,by rw [<- HW.out]; (try rw [HD.out]); exact X3u HS.out⟩
     . have hd:decide (x + n <= 100000000) = false:=decide_eq_false hle
       have HD:=Lib.hid hd;go_wp2
       go_end0
       exact ⟨rfl,by rw [<- HW.out]; (try rw [HD.out]); exact X3u HS.out⟩
end Go.Proofs
namespace Go.Tw
open Go.RowKit Go.Flow
def Q5k (s:ByteArray):List (ByteArray × Value) -> Option Value
 | []=>none
 | p :: l=>if (s == p.1) = true then some p.2 else Q5k s l
def X5t (s:ByteArray) (v:Value):List (ByteArray × Value) -> List (ByteArray × Value)
 | []=>[(s,v)]
 | p :: l=>if (s == p.1) = true then (s,v) :: l else p :: X5t s v l
def Q1m (w:World) (b:Nat) (l:List (ByteArray × Value)):Prop :=
 ∃ a clock,w.heap[b]? = some (.map a clock) /\ a.toList.map (fun e=>(e.key,e.val)) = l.map fun p=>(Value.string p.1,p.2)
theorem Q1m.made (w:World):Q1m (w.alloc (.map #[] 0)) w.heap.size []:=⟨#[],0,by show (w.heap.push _)[w.heap.size]? = _; simp,rfl⟩
theorem Q1m.ext {w w':World} {b:Nat} {l:List (ByteArray × Value)} (h:Q1m w b l) (hx:Ext w w'):Q1m w' b l:=by
 obtain ⟨a,c,hb,he⟩:=h;exact ⟨a,c,by rw [Below.block hx b (Array.getElem?_eq_some_iff.1 hb).1]; exact hb,he⟩
theorem Q1m.lt {w:World} {b:Nat} {l:List (ByteArray × Value)} (h:Q1m w b l):b < w.heap.size:=by
 obtain ⟨a,c,hb,_⟩:=h;exact (Array.getElem?_eq_some_iff.1 hb).1
theorem X4a (s:ByteArray):∀ (es:List MapEntry) (l:List (ByteArray × Value)) (i:Nat),es.map (fun e=>(e.key,e.val)) = l.map (fun p=>(Value.string p.1,p.2)) ->
    ∃ r,Instr.findNow .string (.string s) es i = some r /\ r.map (·.2) = Q5k s l
 | [],[],i,_=>⟨none,rfl,rfl⟩
 | [],_ :: _,_,h=>by simp at h
 | _ :: _,[],_,h=>by simp at h
 | e :: es,p :: l,i,h=>by
   simp only [List.map_cons,List.cons.injEq,Prod.mk.injEq] at h;obtain ⟨⟨h1,h2⟩,h3⟩:=h;unfold Instr.findNow Q5k;simp only [h1,Instr.sameNow,h2];cases hs:(s == p.1) with
   | true=>exact ⟨some (i,p.2),by simp,by simp⟩
   | false =>
     obtain ⟨r,hr,hf⟩:=X4a s es l (i + 1) h3;exact ⟨r,by simpa using hr,by simpa using hf⟩
theorem Z0u (s:ByteArray):(s == s) = true:=str_eq rfl
theorem Z2l {a b:ByteArray} (h:(a == b) = true):a = b:=by
 cases hb:decide (a = b) with
 | true=>exact of_decide_eq_true hb
 | false=>rw [X3w (of_decide_eq_false hb)] at h; cases h
theorem X6w (s:ByteArray):∀ (es:List MapEntry) (l:List (ByteArray × Value)) (i:Nat),es.map (fun e=>(e.key,e.val)) = l.map (fun p=>(Value.string p.1,p.2)) ->
    (Instr.findNow .string (.string s) es i = some none /\ ∀ v,X5t s v l = l ++ [(s,v)]) ∨
    (∃ j x,Instr.findNow .string (.string s) es i = some (some (i + j,x)) /\ j < es.length /\ (∃ e,es[j]? = some e /\ e.key = .string s) /\ ∀ v e,e.key = Value.string s -> e.val = v ->
     (es.set j e).map (fun e=>(e.key,e.val)) = (X5t s v l).map (fun p=>(Value.string p.1,p.2)))
 | [],[],i,_=>.inl ⟨rfl,fun v=>rfl⟩
 | [],_ :: _,_,h=>by simp at h
 | _ :: _,[],_,h=>by simp at h
 | e :: es,p :: l,i,h=>by
   simp only [List.map_cons,List.cons.injEq,Prod.mk.injEq] at h;obtain ⟨⟨h1,h2⟩,h3⟩:=h;cases hs:(s == p.1) with
   | true =>
     have hsp:=Z2l hs;refine .inr ⟨0,e.val,?_,by simp,⟨e,rfl,by rw [h1,hsp]⟩,fun v e' h4 h5=>?_⟩
     . unfold Instr.findNow
       simp only [h1,Instr.sameNow,hs]; rfl
     . unfold X5t
       rw [if_pos hs];simp [h4,h5,h3]
   | false =>
     have hn:¬ (s == p.1) = true:=by rw [hs]; simp
     rcases X6w s es l (i + 1) h3 with ⟨ha,hb⟩ | ⟨j,x,ha,hj,⟨e0,he0,hk0⟩,hb⟩
     . refine .inl ⟨?_,fun v=>?_⟩
       . unfold Instr.findNow
         simp only [h1,Instr.sameNow,hs]; exact ha
       . unfold X5t
         rw [if_neg hn,hb v]; rfl
     . refine .inr ⟨j + 1,x,?_,by simp; omega,⟨e0,by simpa using he0,hk0⟩,fun v e' h4 h5=>?_⟩
       . unfold Instr.findNow
         simp only [h1,Instr.sameNow,hs];rw [show i + (j + 1) = i + 1 + j from by omega]; exact ha
       . unfold X5t
         rw [if_neg hn];simp only [List.set_cons_succ,List.map_cons,h1,h2];rw [hb v e' h4 h5]
theorem X0z {P:Program} {w:World} {r:Nat} {es:Array MapEntry} {clock:Nat} (hb:w.heap[r]? = some (.map es clock)):(getObj r).run P w = .ok (.map es clock) w:=by
 simp [getObj,Sem.run,hb]
theorem X6p {P:Program} {w:World} {r:Nat} {es:Array MapEntry} {clock:Nat} (o:Obj) (hb:w.heap[r]? = some (.map es clock)):(setObj r o).run P w = .ok () { w with heap:=w.heap.setIfInBounds r o }:=by
 simp [setObj,Sem.run,hb]
theorem X0n {P:Program} {w:World} {k:TypeId} (hk:P.underlying k = some .string) (e:Bool) (s:ByteArray) (n:Nat):(Instr.checkKey e (n + 1) k (.string s)).run P w = .ok () w:=by
 unfold Instr.checkKey;simp only [Sem.run_bind,run_underlying hk,Result.andThen_ok,Sem.run_pure]
theorem Q4c {P:Program} {w:World} {b:Nat} {l:List (ByteArray × Value)} (h:Q1m w b l) {t k e:TypeId} (ht:P.underlying t = some (.map k e)) (hk:P.underlying k = some .string) {z:Value} (hz:(zeroValue e).run P w = .ok z w) (s:ByteArray) (ok:Bool) :
    (Instr.lookup t (.map (some b)) (.string s) ok).run P w = .ok (if ok then .tuple #[(Q5k s l).getD z,.bool (Q5k s l).isSome] else (Q5k s l).getD z) w:=by
 obtain ⟨a,clock,hb,he⟩:=h;obtain ⟨r,hr,hf⟩:=X4a s a.toList l 0 he;unfold Instr.lookup;simp only [Sem.run_bind,run_underlying ht,Result.andThen_ok,X0z hb,Sem.run_pure,X0n hk _ s 9999,Instr.findKey,run_underlying hk,hr];rw [<- hf];cases r with
 | none=>simp only [Sem.run_bind,hz,Result.andThen_ok,Sem.run_pure]; cases ok <;> rfl
 | some p=>cases ok <;> rfl
theorem Q2u {P:Program} {w:World} {b:Nat} {l:List (ByteArray × Value)} (h:Q1m w b l) {t k e:TypeId} (ht:P.underlying t = some (.map k e)) (hk:P.underlying k = some .string) (s:ByteArray) (v:Value) :
    ∃ w',(Instr.mapUpdate t (.map (some b)) (.string s) v).run P w = .ok () w' /\ Q1m w' b (X5t s v l) /\ (∀ n,n <= b -> Below n w w') /\ w.grownBy w' (some b):=by
 obtain ⟨a,clock,hb,he⟩:=h;have hlt:=(Array.getElem?_eq_some_iff.1 hb).1;have hbel:∀ o n,n <= b -> Below n w { w with heap:=w.heap.setIfInBounds b o }:=fun o n hn =>
  ⟨rfl,rfl,rfl,by simp,fun k hk'=>by show (w.heap.setIfInBounds b o)[k]? = _; rw [Array.getElem?_setIfInBounds_ne (by omega)]⟩
 have hgr:∀ o,w.grownBy { w with heap:=w.heap.setIfInBounds b o } (some b):=fun o =>
  ⟨rfl,rfl,rfl,by simp,fun k _ hk'=>by show (w.heap.setIfInBounds b o)[k]? = _; rw [Array.getElem?_setIfInBounds_ne (fun e=>hk' (by rw [e]))]⟩
 rcases X6w s a.toList l 0 he with ⟨hr,hp⟩ | ⟨j,x,hr,hj,⟨e0,he0,hk0⟩,hp⟩
 . refine ⟨{ w with heap:=w.heap.setIfInBounds b (.map (a.push ⟨.string s,v,clock⟩) (clock + 1)) },?_,⟨a.push ⟨.string s,v,clock⟩,clock + 1,?_,?_⟩,hbel _,hgr _⟩
   . unfold Instr.mapUpdate
     simp only [Sem.run_bind,run_underlying ht,Result.andThen_ok,X0z hb,Sem.run_pure,X0n hk _ s 9999,Instr.findKey,run_underlying hk,hr];exact X6p _ hb
   . show (w.heap.setIfInBounds b _)[b]? = _; simp [hlt]
   . rw [hp v]; simp [he]
 . rw [Nat.zero_add] at hr
   have he0':a[j]? = some e0:=by simpa using he0
   refine ⟨{ w with heap:=w.heap.setIfInBounds b (.map (a.modify j fun e=>{ e with key:=.string s,val:=v }) clock) },?_,⟨a.modify j fun e=>{ e with key:=.string s,val:=v },clock,?_,?_⟩,hbel _,hgr _⟩
   . unfold Instr.mapUpdate
     simp only [Sem.run_bind,run_underlying ht,Result.andThen_ok,X0z hb,Sem.run_pure,X0n hk _ s 9999,Instr.findKey,run_underlying hk,hr,he0',Option.map_some,Option.getD_some,hk0];have hkt:(Instr.keyThatStays (.string s) (.string s)).run P w = .ok (.string s) w:=by
      unfold Instr.keyThatStays;rw [if_pos (by unfold Instr.sameBits; exact Z0u s)]; rfl
     simp only [hkt,Result.andThen_ok];exact X6p _ hb
   . show (w.heap.setIfInBounds b _)[b]? = _; simp [hlt]
   . have:=hp v { e0 with key:=.string s,val:=v } rfl rfl
     rw [<- this]
     congr 1
     apply List.ext_getElem?
     intro i;rw [Array.getElem?_toList,Array.getElem?_modify,List.getElem?_set]
     by_cases hij:j = i
     . subst hij
       have hja:j < a.size:=by simpa using hj
       simp only [he0',Option.map_some,if_true,Array.length_toList,hja]
     . simp [hij]
end Go.Tw
namespace Go.Proofs
open Go.RowKit Go.Tw Go.Flow
attribute [local go_sem] Oper.semAt_some
def kdV (a b:Bool) (f:Nat):Value:=.agg #[.bool a,.bool b,.func (.func f) #[] #[]]
def X2a:List (ByteArray × Value):=[(Q1y,kdV true false 200),(Y1g,kdV true false 201),(Q5e,kdV false true 203),(Y2u,kdV false false 205),(Y5s,kdV false false 206)]
theorem X4n:Tryz.prog.underlying 275 = some (.map 9 273):=by kernel_rfl
theorem X7f:Tryz.prog.underlying 9 = some .string:=by kernel_rfl
theorem Z1x (w:World):(zeroValue 273).run Tryz.prog w = .ok (.agg #[.bool false,.bool false,.nilFunc]) w:=by kernel_rfl
theorem Tryz.Y2a (w:World):(isAgg 270).run Tryz.prog w = .ok true w:=by kernel_rfl
theorem Tryz.X4o (w:World):(sizeOf 270).run Tryz.prog w = .ok 2 w:=by kernel_rfl
theorem table_any (w:World) :
    Calls Tryz.prog 174 #[] w fun e w'=>∃ b,e = .returned (.map (some b)) /\ Q1m w' b X2a /\ Ext w w':=by
 have hmm:=@run_makeMap Tryz.prog;go_enter Tryz.func174,Tryz.ntmps174;go_upto_region 2 with fail;obtain ⟨W,hWW,k0,k1,k2,HXW,eW⟩:=X3m w 270 #[.bool true,.bool false] 270 #[.bool false,.bool true] 270 #[.bool false,.bool false];rw [hWW];clear hWW;obtain ⟨g,hg⟩:∃ x,w.heap.size = x:=⟨_,rfl⟩;rw [hg] at k0 k1 k2 eW ⊢;obtain ⟨W1,e1,m1,b1,_⟩:=Q2u (P:=Tryz.prog) (Q1m.made W) X4n X7f Q1y (kdV true false 200);obtain ⟨W2,e2,m2,b2,_⟩:=Q2u (P:=Tryz.prog) m1 X4n X7f Y1g (kdV true false 201);obtain ⟨W3,e3,m3,b3,_⟩:=Q2u (P:=Tryz.prog) m2 X4n X7f Q5e (kdV false true 203);obtain ⟨W4,e4,m4,b4,_⟩:=Q2u (P:=Tryz.prog) m3 X4n X7f Y2u (kdV false false 205);obtain ⟨W5,e5,m5,b5,_⟩:=Q2u (P:=Tryz.prog) m4 X4n X7f Y5s (kdV false false 206);have x0:Ext W (W.alloc (.map #[] 0)):=Ext.box W (.map #[] 0);have x1:Ext W W1:=Below.trans x0 (b1 W.heap.size (Nat.le_refl _));have x2:Ext W W2:=Below.trans x1 (b2 W.heap.size (Nat.le_refl _));have x3:Ext W W3:=Below.trans x2 (b3 W.heap.size (Nat.le_refl _));have x4:Ext W W4:=Below.trans x3 (b4 W.heap.size (Nat.le_refl _));have x5:Ext W W5:=Below.trans x4 (b5 W.heap.size (Nat.le_refl _));have HM:Hid (Q1m W5 W.heap.size X2a):=m5;have HX:Hid (Ext w W5):=Lib.hid (HXW.out.trans x5);have k00:=k0.ext x0;have k01:=k0.ext x1;have k12:=k1.ext x2;have k23:=k2.ext x3;have k24:=k2.ext x4;clear m1 m2 m3 m4 m5 b1 b2 b3 b4 b5 x0 x1 x2 x3 x4 x5 k0 k1 k2 hg;rw [eW] at e1 e2 e3 e4 e5 HM;unfold kdV Q1y at e1;unfold kdV Y1g at e2;unfold kdV Q5e at e3;unfold kdV Y2u at e4;unfold kdV Y5s at e5;go_wp2_with (first | (refine Q0j rfl _ _ rfl Tryz.Y2a Tryz.X4o rfl k00 rfl ?_) | (refine Q0j rfl _ _ rfl Tryz.Y2a Tryz.X4o rfl k01 rfl ?_) | (refine Q0j rfl _ _ rfl Tryz.Y2a Tryz.X4o rfl k12 rfl ?_) | (refine Q0j rfl _ _ rfl Tryz.Y2a Tryz.X4o rfl k23 rfl ?_) | (refine Q0j rfl _ _ rfl Tryz.Y2a Tryz.X4o rfl k24 rfl ?_))
 go_ret;exact ⟨_,rfl,HM.out,HX.out⟩
end Go.Proofs
namespace Go.Tw
open Go.Ba
theorem X3l {x r:Int} (hr:1 <= r) {m:Int} (hm:0 <= m) (h:x <= m):x / r <= m:=by
 have h1:x / r <= m / r:=Int.ediv_le_ediv (by omega) h
 have h2:m / r <= m:=Int.ediv_le_self _ hm;omega
theorem Z3j {x y b c:Int} (hx:0 <= x /\ x <= b) (hy:y <= c) (hc:0 <= c):x * y <= b * c:=by
 have h1:x * y <= x * c:=Int.mul_le_mul_of_nonneg_left hy hx.1;have h2:x * c <= b * c:=Int.mul_le_mul_of_nonneg_right hx.2 hc;omega
theorem Y6k {l:Lk} {n:Nat} (hf:l.Fits n) {v a t m:Int} (o:Bool) (hv:0 <= v /\ v <= m) (ha:0 <= a /\ a <= 1000) (ht:t <= 1024) :
    l.flow v a t o <= m + 1024000 /\ -m <= l.flow v a t o /\ (l.src ≠ -1 -> 0 <= l.flow v a t o /\ l.flow v a t o <= v) /\ (l.src = -1 -> 0 <= v + l.flow v a t o /\ v + l.flow v a t o <= m + 1024000):=by
 obtain ⟨hr,h0,he⟩:=hf;have hm:0 <= m:=by omega
 have hat:a * t <= 1000 * 1024:=Z3j ha ht (by decide)
 have hal:0 <= a * l.lev:=Int.mul_nonneg ha.1 h0;have hmx:0 <= a * max t l.lev:=Int.mul_nonneg ha.1 (by omega)
 unfold Lk.flow;cases hk:l.kind <;> rw [hk] at he <;> dsimp only at he ⊢
 . cases o
   . simp only [Bool.false_eq_true,if_false]
     refine ⟨by omega,by omega,fun h=>absurd he.1 h,fun _=>by omega⟩
   . simp only [if_true]
     by_cases hx:0 <= a * t - v
     . have h1:=X3l (x:=a * t - v) hr hx (Int.le_refl _)
       have h2:0 <= (a * t - v) / l.rate:=Int.ediv_nonneg hx (by omega)
       refine ⟨by omega,by omega,fun h=>absurd he.1 h,fun _=>by omega⟩
     . have h1:=X3l (x:=a * t - v) hr (Int.le_refl 0) (by omega)
       refine ⟨by omega,by omega,fun h=>absurd he.1 h,fun _=>by omega⟩
 . by_cases hx:0 <= a * t - v
   . have h1:=X3l (x:=a * t - v) hr hx (Int.le_refl _)
     have h2:0 <= (a * t - v) / l.rate:=Int.ediv_nonneg hx (by omega)
     refine ⟨by omega,by omega,fun h=>absurd he.1 h,fun _=>by omega⟩
   . have h1:=X3l (x:=a * t - v) hr (Int.le_refl 0) (by omega)
     refine ⟨by omega,by omega,fun h=>absurd he.1 h,fun _=>by omega⟩
 . have h1:=X3l (x:=v - a * max t l.lev) hr hv.1 (by omega)
   refine ⟨by omega,by omega,fun _=>by omega,fun h=>by omega⟩
 . refine ⟨by omega,by omega,fun _=>by omega,fun h=>by omega⟩
 . have h1:=X3l (x:=v - a * l.lev) hr hv.1 (by omega)
   refine ⟨by omega,by omega,fun _=>by omega,fun h=>by omega⟩
theorem Y8u {V:List Int} {m i n:Int} (h:Bnd V m) {m':Int} (hm:m <= m') (hi:i = -1 ∨ (0 <= i /\ i < V.length)) (hn:0 <= i -> 0 <= ix V i.toNat + n /\ ix V i.toNat + n <= m'):Bnd (Q4j V i n) m':=by
 intro k;have hk:=h k;unfold Q4j
 rcases hi with rfl | ⟨h0,h1⟩
 . rw [if_pos (by decide)]; omega
 . rw [if_neg (by omega),Y4r V (by omega)]
   split
   . exact hn h0
   . omega
theorem Y3d {b:Q1b} (hb:b.Ok) (k:Nat) (hk:k < b.nodes.length):0 <= Q4x b.nodes k /\ Q4x b.nodes k <= 1000:=by have:=hb.areas k hk; omega
theorem Y4h {b:Q1b} (hb:b.Ok) {c:Cond} (hc:c.tide <= 1024) {k:Nat} (hk:k < b.links.length) {U:List Int} (hl:U.length = b.nodes.length) {m:Int} (hm:0 <= m) (h:Bnd U m) :
    Bnd (Q4j U (lk b.links k).src (-(Q2g b c k U))) m /\ Bnd (Q4j (Q4j U (lk b.links k).src (-(Q2g b c k U))) (lk b.links k).dst (Q2g b c k U)) (2 * m + 1024000):=by
 have hf:=hb.links k hk;obtain ⟨e1,e2,e3,e4⟩:=Fits.Z2s hf;have hn:(lk b.links k).Q9j.node.toNat < b.nodes.length:=by omega
 have hv:=h (lk b.links k).Q9j.node.toNat;obtain ⟨f1,f2,f3,f4⟩:=Y6k hf (a:=Q4x b.nodes (lk b.links k).Q9j.node.toNat) (t:=c.tide) c.opn hv (Y3d hb _ hn) hc;have hs:(lk b.links k).Q9j.src = (lk b.links k).src:=rfl;have hd:(lk b.links k).Q9j.dst = (lk b.links k).dst:=rfl;rw [hs] at e1 f3 f4;rw [hd] at e2;have key:Bnd (Q4j U (lk b.links k).src (-(Q2g b c k U))) m:=by
  refine Y8u h (Int.le_refl _) (by rw [hl]; exact e1) fun h0=>?_
  have hsn:(lk b.links k).Q9j.node = (lk b.links k).src:=by unfold Lk.node; rw [hs,if_neg (by omega)]
  have:=f3 (by omega)
  unfold Q2g;rw [hsn] at this hv ⊢;omega
 refine ⟨key,Y8u key (by omega) (by rw [Q9l,hl]; exact e2) fun h0=>?_⟩
 have hk2:=key (lk b.links k).dst.toNat
 by_cases hsea:(lk b.links k).src = -1
 . have hsn:(lk b.links k).Q9j.node = (lk b.links k).dst:=by unfold Lk.node; rw [hs,if_pos hsea,hd]
   have e:Q4j U (lk b.links k).src (-(Q2g b c k U)) = U:=by unfold Q4j; rw [if_pos (by omega)]
   rw [e];have:=f4 hsea;unfold Q2g;rw [hsn] at this ⊢;omega
 . have:=f3 hsea
   have hfl:Q2g b c k U = (lk b.links k).Q9j.flow (ix U (lk b.links k).Q9j.node.toNat) (Q4x b.nodes (lk b.links k).Q9j.node.toNat) c.tide c.opn:=rfl;rw [<- hfl] at this;omega
def Y5y (m:Int):Nat -> Int
 | 0=>m
 | k + 1=>2 * Y5y m k + 1024000
theorem Q6a {m:Int} (hm:0 <= m):∀ k,0 <= Y5y m k
 | 0=>hm
 | k + 1=>by have:=Q6a hm k; unfold Y5y; omega
theorem Y6w {m:Int} (hm:0 <= m):∀ {j k:Nat},j <= k -> Y5y m j <= Y5y m k
 | j, 0, h => by have : j = 0 := by omega
                 subst this; exact Int.le_refl _
 | j,k + 1,h=>by
   by_cases e:j = k + 1
   . subst e; exact Int.le_refl _
   . have:=Y6w hm (j:=j) (k:=k) (by omega)
     have h2:=Q6a hm k;show Y5y m j <= 2 * Y5y m k + 1024000;omega
theorem Z7i {m:Int} (hm:0 <= m /\ m <= 200000000) {k:Nat} (hk:k <= 16):Y5y m k <= 100000000000000:=by
 have h1:=Y6w hm.1 hk;have h2:Y5y m 16 <= 100000000000000:=by simp only [Y5y]; omega
 omega
theorem X7t {b:Q1b} (hb:b.Ok) {c:Cond} (hc:c.tide <= 1024) {U:List Int} (hl:U.length = b.nodes.length) {m:Int} (hm:0 <= m) (h:Bnd U m) (q:Bool):∀ {k:Nat},k <= b.links.length -> Bnd (Q3y b c U q k).1 (Y5y m k)
 | 0,_=>h
 | k + 1,hk=>by
   have ih:=X7t hb hc hl hm h q (k:=k) (by omega)
   exact (Y4h hb hc (by omega) (by rw [Q3w,hl]) (Q6a hm k) ih).2
theorem X3b {V X:List Int} (hV:Bnd V 100000000) (hX:∀ k,0 <= ix X k /\ ix X k <= 100000):∀ k,k <= V.length -> (∀ j,0 <= ix (Q5u V X k).1 j /\ ix (Q5u V X k).1 j <= 100100000) /\ ∀ j,k <= j -> ix (Q5u V X k).1 j = ix V j
 | 0,_=>⟨fun j=>by have:=hV j; unfold Q5u; dsimp only; omega,fun _ _=>rfl⟩
 | k + 1,hk=>by
   obtain ⟨h1,h2⟩:=X3b hV hX k (by omega)
   have hkk:=h2 k (Nat.le_refl _);have hv:=hV k;have hx:=hX k;have hl:=Q5c V X k;have e:∀ j,ix (Q5u V X (k + 1)).1 j = if k = j then ix V k + ix X k else ix (Q5u V X k).1 j:=by
    intro j;show ix (Q4j (Q5u V X k).1 k (ix X k)) j = _;unfold Q4j;rw [if_neg (by omega),Int.toNat_natCast,Y4r _ (by omega),hkk]
   refine ⟨fun j=>?_,fun j hj=>?_⟩
   . have:=h1 j
     rw [e]
     split <;> omega
   . rw [e,if_neg (by omega)]
     exact h2 j (by omega)
end Go.Tw
