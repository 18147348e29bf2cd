/- Contract of isName: a name by its bytes. Contracts: sets as bits; the order of sets. How many bits a number has, as math/bits reckons it: no program is in sight here. Contract of bits.OnesCount. What a tree without an error is like. The nodes of a tree as sets of bits, and what they come to: no program is in sight here. -/
import Derived.Test.YtghcnlbkghaaeaaDoorPv03
import Derived.Test.YtghcnlbkghaaeaaDoorPv01
set_option maxRecDepth 1000000
set_option maxHeartbeats 64000000
set_option linter.unusedVariables false
set_option linter.unusedSimpArgs false
set_option linter.constructorNameAsVariable false
namespace Go.Proofs
open Go.RowKit Go.Tw Go.Flow
def Q0k (first:Bool):List UInt8 -> Bool
 | []=>true
 | c :: l=>(letterB c || (!first && otherB c)) && Q0k false l
theorem Q6d:∀ l:List UInt8,Q0k false l = l.all fun c=>letterB c || otherB c
 | []=>rfl
 | c :: l=>by simp [Q0k,Q6d l]
theorem Q0o (s:ByteArray):nameB s = (Q0k true s.data.toList && (decide (s.data.toList ≠ []) && decide (s.data.toList.length <= 24))):=by
 unfold nameB;cases s.data.toList with
 | nil=>rfl
 | cons c l =>
   simp only [Q0k,Q6d,Bool.not_true,Bool.false_and,Bool.or_false,List.length_cons];rw [show decide (c :: l ≠ []) = true from by simp,Bool.true_and]
   congr 1
theorem X9r (s:ByteArray) (pos:Nat) (h:pos < s.size):s.data.toList.drop pos = s[pos]'h :: s.data.toList.drop (pos + 1):=by
 have h':pos < s.data.toList.length:=by simpa using h
 rw [List.drop_eq_getElem_cons h'];rfl
theorem X5m (c:UInt8):letterB c = (decide (97 <= c.toNat /\ c.toNat <= 122) || decide (65 <= c.toNat /\ c.toNat <= 90)):=by
 unfold letterB;simp only [UInt8.le_iff_toNat_le];simp
theorem X8f (c:UInt8):otherB c = (decide (c.toNat = 95) || decide (48 <= c.toNat /\ c.toNat <= 57)):=by
 unfold otherB;simp only [UInt8.le_iff_toNat_le];rw [show (c == 95) = decide (c.toNat = 95) from by rw [show (c == 95) = decide (c = 95) from rfl]; exact decide_eq_decide.2 ⟨fun h=>by subst h; rfl,fun h=>UInt8.toNat_inj.1 h⟩]
 simp
theorem Y0z (s:ByteArray) (pos:Nat) (h:pos < s.size):∃ n d,Utf8.decode s pos = (n,d) /\ 1 <= d /\ (n < 128 -> n = (s[pos]'h).toNat /\ d = 1) /\ (128 <= n -> 128 <= (s[pos]'h).toNat):=by
 by_cases ha:(s[pos]'h).toNat < 128
 . exact ⟨_,_,decode_ascii s pos h ha,Nat.le_refl _,fun _=>⟨rfl,rfl⟩,fun h'=>h'⟩
 . have:=decode_high s pos h (by omega)
   obtain ⟨n,d,hnd⟩:∃ n d,Utf8.decode s pos = (n,d):=⟨_,_,rfl⟩;rw [hnd] at this;exact ⟨n,d,hnd,this.2,fun h'=>by have:=this.1; omega,fun _=>by omega⟩
theorem X3q {s:ByteArray} (h:s.toList = []):s.data.toList = []:=by rw [toList_nil_iff_emptyBytes] at h; subst h; rfl
theorem X6j {s:ByteArray} (h:¬ s.toList = []):s.data.toList ≠ []:=fun e=>h (by
 rw [toList_nil_iff_emptyBytes];obtain ⟨⟨l⟩⟩:=s;simp only at e;subst e; rfl)
theorem X4u (w:World) (s:ByteArray) (hs:Short s) :
    Calls Tryd.prog 100 #[.string s] w fun e w'=>e = .returned (.bool (nameB s)) /\ Ext w w':=by
 unfold Short at hs;go_enter Tryd.func100,Tryd.ntmps100;go_wp2
 go_loopw [9] (fun _ w'=>∃ pos:Nat,w' = w.iter s pos /\ Q0k (pos == 0) (s.data.toList.drop pos) = Q0k true s.data.toList) (fun _ w'=>s.size - w'.iterPos w.heap.size)
 case atStart=>exact ⟨0,rfl,rfl⟩
 case round =>
  obtain ⟨pos,rfl,hc⟩:=hrel;have HC:=Lib.hid hc; clear hc
  by_cases hp:pos < s.size
  . obtain ⟨n,d,hd,hd1,hn1,hn2⟩:=Y0z s pos hp
    have hnx:∀ ty,(Instr.next (.pointer (some ⟨w.heap.size,0,none⟩)) true ty).run Tryd.prog (w.iter s pos) = .ok (.tuple #[.bool true,.int .i64 pos,.int .i32 n]) (w.iter s (pos + d)):=fun ty=>by
     rw [run_next_any w s pos ty hp,hd]
    have HB:=Lib.hid (X9r s pos hp);have HL:=Lib.hid (X5m (s[pos]'hp));have HO:=Lib.hid (X8f (s[pos]'hp));obtain ⟨c,hcc⟩:∃ c,s[pos]'hp = c:=⟨_,rfl⟩;rw [hcc] at hn1 hn2 HB HL HO;have HN1:=Lib.hid hn1;have HN2:=Lib.hid hn2;clear hcc hd hn1 hn2;have hcl:(65 <= n /\ n <= 90) ∨ (97 <= n /\ n <= 122) ∨ (48 <= n /\ n <= 57) ∨ n = 95 ∨ n < 48 ∨ (58 <= n /\ n < 65) ∨ (91 <= n /\ n < 97 /\ n ≠ 95) ∨ 123 <= n:=by omega
    obtain ⟨N,hN⟩:∃ N:Int,(n:Int) = N:=⟨_,rfl⟩;rw [hN] at hnx
    rcases hcl with hcl | hcl | hcl | hcl | hcl | hcl | hcl | hcl
    . have f0:65 <= N:=by omega
      have f1:N <= 90:=by omega
      have HX:Hid (letterB c = true):=by
       exact (by rw [HL.out,<- (HN1.out (by omega)).1]; simp; omega:letterB c = true)
      have HD:Hid (d = 1):=by exact (HN1.out (by omega)).2
      clear hcl hN;go_wp2;go_roundw
      case rel=>exact ⟨pos + d,rfl,by rw [<- HC.out,HB.out,HD.out]; simp [Q0k,HX.out]⟩
      case measure=>simp; omega
    . have f0:65 <= N:=by omega
      have f1:¬ N <= 90:=by omega
      have f2:97 <= N:=by omega
      have f3:N <= 122:=by omega
      have HX:Hid (letterB c = true):=by
       exact (by rw [HL.out,<- (HN1.out (by omega)).1]; simp; omega:letterB c = true)
      have HD:Hid (d = 1):=by exact (HN1.out (by omega)).2
      clear hcl hN;go_wp2;go_roundw
      case rel=>exact ⟨pos + d,rfl,by rw [<- HC.out,HB.out,HD.out]; simp [Q0k,HX.out]⟩
      case measure=>simp; omega
    . have f0:¬ 65 <= N:=by omega
      have f1:¬ 97 <= N:=by omega
      have f2:48 <= N:=by omega
      have f3:N <= 57:=by omega
      have HX:Hid (letterB c = false /\ otherB c = true):=by
       exact (by rw [HL.out,HO.out,<- (HN1.out (by omega)).1]; simp; omega:letterB c = false /\ otherB c = true)
      have HD:Hid (d = 1):=by exact (HN1.out (by omega)).2
      clear hcl hN
      by_cases h0:pos = 0
      . subst h0
        go_wp2;go_ret;exact ⟨ret_bool (by rw [Q0o,<- HC.out,HB.out]; simp [Q0k,HX.out.1]),Ext.box _ _⟩
      . have h0':(((pos:Nat):Int) == 0) = false:=by rw [beq_eq_false_iff_ne]; omega
        have HP:=Lib.hid h0; clear h0;go_wp2;go_roundw
        case rel=>exact ⟨pos + d,rfl,by rw [<- HC.out,HB.out,HD.out]; simp [Q0k,HX.out.1,HX.out.2,HP.out]⟩
        case measure=>simp; omega
    . have f0:65 <= N:=by omega
      have f1:¬ N <= 90:=by omega
      have f2:¬ 97 <= N:=by omega
      have f3:48 <= N:=by omega
      have f4:¬ N <= 57:=by omega
      have f5:(N == 95) = true:=by rw [beq_iff_eq]; omega
      have HX:Hid (letterB c = false /\ otherB c = true):=by
       exact (by rw [HL.out,HO.out,<- (HN1.out (by omega)).1]; simp; omega:letterB c = false /\ otherB c = true)
      have HD:Hid (d = 1):=by exact (HN1.out (by omega)).2
      clear hcl hN
      by_cases h0:pos = 0
      . subst h0
        go_wp2;go_ret;exact ⟨ret_bool (by rw [Q0o,<- HC.out,HB.out]; simp [Q0k,HX.out.1]),Ext.box _ _⟩
      . have h0':(((pos:Nat):Int) == 0) = false:=by rw [beq_eq_false_iff_ne]; omega
        have HP:=Lib.hid h0; clear h0;go_wp2;go_roundw
        case rel=>exact ⟨pos + d,rfl,by rw [<- HC.out,HB.out,HD.out]; simp [Q0k,HX.out.1,HX.out.2,HP.out]⟩
        case measure=>simp; omega
    . have f0:¬ 65 <= N:=by omega
      have f1:¬ 97 <= N:=by omega
      have f2:¬ 48 <= N:=by omega
      have f3:(N == 95) = false:=by rw [beq_eq_false_iff_ne]; omega
      have HX:Hid (letterB c = false /\ otherB c = false):=by
       exact (by
        rcases Nat.lt_or_ge n 128 with h | h
        . rw [HL.out,HO.out,<- (HN1.out h).1]; simp; omega
        . have:=HN2.out h
          rw [HL.out,HO.out]; simp; omega:letterB c = false /\ otherB c = false)
      clear hcl hN
      by_cases h0:pos = 0
      . subst h0
        go_wp2;go_ret;exact ⟨ret_bool (by rw [Q0o,<- HC.out,HB.out]; simp [Q0k,HX.out.1]),Ext.box _ _⟩
      . have h0':(((pos:Nat):Int) == 0) = false:=by rw [beq_eq_false_iff_ne]; omega
        have HP:=Lib.hid h0; clear h0;go_wp2;go_ret;exact ⟨ret_bool (by rw [Q0o,<- HC.out,HB.out]; simp [Q0k,HX.out.1,HX.out.2]),Ext.box _ _⟩
    . have f0:¬ 65 <= N:=by omega
      have f1:¬ 97 <= N:=by omega
      have f2:48 <= N:=by omega
      have f3:¬ N <= 57:=by omega
      have f4:(N == 95) = false:=by rw [beq_eq_false_iff_ne]; omega
      have HX:Hid (letterB c = false /\ otherB c = false):=by
       exact (by
        rcases Nat.lt_or_ge n 128 with h | h
        . rw [HL.out,HO.out,<- (HN1.out h).1]; simp; omega
        . have:=HN2.out h
          rw [HL.out,HO.out]; simp; omega:letterB c = false /\ otherB c = false)
      clear hcl hN
      by_cases h0:pos = 0
      . subst h0
        go_wp2;go_ret;exact ⟨ret_bool (by rw [Q0o,<- HC.out,HB.out]; simp [Q0k,HX.out.1]),Ext.box _ _⟩
      . have h0':(((pos:Nat):Int) == 0) = false:=by rw [beq_eq_false_iff_ne]; omega
        have HP:=Lib.hid h0; clear h0;go_wp2;go_ret;exact ⟨ret_bool (by rw [Q0o,<- HC.out,HB.out]; simp [Q0k,HX.out.1,HX.out.2]),Ext.box _ _⟩
    . have f0:65 <= N:=by omega
      have f1:¬ N <= 90:=by omega
      have f2:¬ 97 <= N:=by omega
      have f3:48 <= N:=by omega
      have f4:¬ N <= 57:=by omega
      have f5:(N == 95) = false:=by rw [beq_eq_false_iff_ne]; omega
      have HX:Hid (letterB c = false /\ otherB c = false):=by
       exact (by
        rcases Nat.lt_or_ge n 128 with h | h
        . rw [HL.out,HO.out,<- (HN1.out h).1]; simp; omega
        . have:=HN2.out h
          rw [HL.out,HO.out]; simp; omega:letterB c = false /\ otherB c = false)
      clear hcl hN
      by_cases h0:pos = 0
      . subst h0
        go_wp2;go_ret;exact ⟨ret_bool (by rw [Q0o,<- HC.out,HB.out]; simp [Q0k,HX.out.1]),Ext.box _ _⟩
      . have h0':(((pos:Nat):Int) == 0) = false:=by rw [beq_eq_false_iff_ne]; omega
        have HP:=Lib.hid h0; clear h0;go_wp2;go_ret;exact ⟨ret_bool (by rw [Q0o,<- HC.out,HB.out]; simp [Q0k,HX.out.1,HX.out.2]),Ext.box _ _⟩
    . have f0:65 <= N:=by omega
      have f1:¬ N <= 90:=by omega
      have f2:97 <= N:=by omega
      have f3:¬ N <= 122:=by omega
      have f4:48 <= N:=by omega
      have f5:¬ N <= 57:=by omega
      have f6:(N == 95) = false:=by rw [beq_eq_false_iff_ne]; omega
      have HX:Hid (letterB c = false /\ otherB c = false):=by
       exact (by
        rcases Nat.lt_or_ge n 128 with h | h
        . rw [HL.out,HO.out,<- (HN1.out h).1]; simp; omega
        . have:=HN2.out h
          rw [HL.out,HO.out]; simp; omega:letterB c = false /\ otherB c = false)
      clear hcl hN
      by_cases h0:pos = 0
      . subst h0
        go_wp2;go_ret;exact ⟨ret_bool (by rw [Q0o,<- HC.out,HB.out]; simp [Q0k,HX.out.1]),Ext.box _ _⟩
      . have h0':(((pos:Nat):Int) == 0) = false:=by rw [beq_eq_false_iff_ne]; omega
        have HP:=Lib.hid h0; clear h0;go_wp2;go_ret;exact ⟨ret_bool (by rw [Q0o,<- HC.out,HB.out]; simp [Q0k,HX.out.1,HX.out.2]),Ext.box _ _⟩
  . have hnx:∀ ty,(Instr.next (.pointer (some ⟨w.heap.size,0,none⟩)) true ty).run Tryd.prog (w.iter s pos) = _:=fun ty=>run_next_end w s pos ty hp
    have HF:Hid (Q0k true s.data.toList = true):=by
     exact (by rw [<- HC.out,List.drop_eq_nil_of_le (by simpa using hp)]; rfl:Q0k true s.data.toList = true)
    have hsz:s.data.toList.length = s.size:=by simp
    have HS:=Lib.hid hsz;clear hsz hp
    by_cases h24:(s.size:Int) <= 24
    . have H24:=Lib.hid h24
      go_wp2
      . have he:s.toList = []:=by assumption
        go_ret;exact ⟨ret_bool (by rw [Q0o,HF.out,X3q he]; rfl),Ext.box _ _⟩
      . have he:¬ s.toList = []:=by assumption
        go_ret;exact ⟨ret_bool (by have:=HS.out; have:=H24.out; rw [Q0o,HF.out,Bool.true_and,decide_eq_true (X6j he),Bool.true_and]; rw [decide_eq_true (by omega:s.data.toList.length <= 24)]; simp [he]),Ext.box _ _⟩
    . have H24:=Lib.hid h24
      go_wp2
      . have he:s.toList = []:=by assumption
        go_ret;exact ⟨ret_bool (by rw [Q0o,HF.out,X3q he]; rfl),Ext.box _ _⟩
      . have he:¬ s.toList = []:=by assumption
        go_ret;exact ⟨ret_bool (by have:=HS.out; have:=H24.out; rw [Q0o,HF.out,Bool.true_and,decide_eq_true (X6j he),Bool.true_and]; exact (decide_eq_false (by omega)).symm),Ext.box _ _⟩
end Go.Proofs
namespace Go.Proofs
open Go.RowKit Go.Tw Go.Flow
theorem X6k {n:Nat} (h:n < 62):wrap64 (2 ^ n) = ((2 ^ n:Nat):Int):=by
 have h1:(2:Nat) ^ n < 2 ^ 62:=Nat.pow_lt_pow_right (by omega) h
 have h2:((2 ^ n:Nat):Int) = 2 ^ n:=by simp
 rw [<- h2];obtain ⟨m,hm⟩:∃ m,2 ^ n = m:=⟨_,rfl⟩;rw [hm] at h1 ⊢;unfold wrap64;omega
theorem X6i {a n:Nat} (ha:a < 2 ^ 62) (h:n < 62):bits .or .i64 (a:Int) (wrap64 (2 ^ n)) = ((a ||| 2 ^ n:Nat):Int):=by
 rw [X6k h,Y2y ha (Nat.pow_lt_pow_right (by omega) h)]
theorem Q9i (w:World) (v:Value) (l:List Int) (hv:IsInts w v l) (hb:∀ x ∈ l,0 <= x /\ x < 62) :
    Calls Tryd.prog 67 #[v] w fun e w'=>e = .returned (.int .i64 (Q1d l:Nat)) /\ w = w':=by
 obtain ⟨A,cap,rfl,hl,hcap,hc⟩:=hv.opened;have HB:=Lib.hid hb;clear hv hb;go_enter Tryd.func67,Tryd.ntmps67;go_wp2
 go_loop [3,8] (fun o i=>∃ (k a:Nat),k <= l.length /\ i = .int .i64 k /\ o = .int .i64 a /\ a < 2 ^ 62 /\ Q7s a (l.drop k) = Q1d l) (fun _ i=>l.length - (intOf i).toNat)
 case atStart=>exact ⟨0,0,Nat.zero_le _,rfl,rfl,by decide,rfl⟩
 case round =>
  obtain ⟨k,a,hk,rfl,rfl,ha,hr⟩:=hrel;have HR:=Lib.hid hr; clear hr
  by_cases hlt:k < l.length
  . obtain ⟨b,off,rfl,hcell⟩:=hc k hlt
    have hb:=HB.out (ix l k) (by rw [ix_eq hlt]; exact List.getElem_mem hlt)
    obtain ⟨n,hn⟩:∃ n:Nat,ix l k = (n:Int):=⟨(ix l k).toNat,by omega⟩
    have HN:=Lib.hid hn;rw [hn] at hcell;have hn2:n < 62:=by omega
    have HA:=Lib.hid ha;clear hc hb hn ha;go_wp2;go_round
    case rel=>exact ⟨k + 1,a ||| 2 ^ n,by omega,by go_num,by rw [X6i HA.out hn2],Nat.or_lt_two_pow HA.out (Nat.pow_lt_pow_right (by omega) hn2),by rw [<- HR.out,Q1s hlt,Q4r,HN.out]; rfl⟩
    case measure=>simp [intOf]; omega
  . clear hc
    go_wp2;go_ret;exact ⟨ret_int (by rw [<- HR.out,List.drop_eq_nil_of_le (by omega)]; rfl),rfl⟩
def X7n (x y:Int):Int:=if x < y then -1 else if y < x then 1 else 0
def cmpL:List Int -> List Int -> Int
 | [],[]=>0
 | [],_ :: _=>-1
 | _ :: _,[]=>1
 | x :: l,y :: m=>if x = y then cmpL l m else X7n x y
def Q1m (a b:List Int):Int:=if a.length = b.length then cmpL a b else (a.length:Int) - b.length
theorem X8l {a b:List Int} {k:Nat} (ha:k < a.length) (hb:k < b.length):cmpL (a.drop k) (b.drop k) = if ix a k = ix b k then cmpL (a.drop (k + 1)) (b.drop (k + 1)) else X7n (ix a k) (ix b k):=by
 rw [Q1s ha,Q1s hb]; rfl
theorem Q8u (w:World) (x y:Int) :
    Calls Tryd.prog 154 #[.int .i64 x,.int .i64 y] w fun e w'=>e = .returned (.int .i64 (X7n x y)) /\ w = w':=by
 unfold X7n
 by_cases h1:x < y
 . rw [if_pos h1]
   go_enter Tryd.func154,Tryd.ntmps154;go_wp2;go_ret;exact ⟨rfl,rfl⟩
 . by_cases h2:y < x
   . rw [if_neg h1,if_pos h2]
     go_enter Tryd.func154,Tryd.ntmps154;go_wp2;go_ret;exact ⟨rfl,rfl⟩
   . rw [if_neg h1,if_neg h2]
     go_enter Tryd.func154,Tryd.ntmps154;go_wp2;go_ret;exact ⟨rfl,rfl⟩
theorem X1w (w:World) (u v:Value) (a b:List Int) (hu:IsInts w u a) (hv:IsInts w v b) (hab:a.length = b.length) :
    Calls Tryd.prog 131 #[u,v] w fun e w'=>e = .returned (.int .i64 (cmpL a b)) /\ w = w':=by
 obtain ⟨A,ca,rfl,hla,hcapa,hca⟩:=hu.opened;obtain ⟨B,cb,rfl,hlb,hcapb,hcb⟩:=hv.opened;clear hu hv;obtain ⟨m,hma⟩:∃ m,a.length = m:=⟨_,rfl⟩;have hmb:b.length = m:=by omega
 rw [hma] at hla hcapa hca ⊢;rw [hmb] at hlb hcapb hcb ⊢;have HMA:=Lib.hid hma;have HMB:=Lib.hid hmb;clear hab hma hmb;go_enter Tryd.func131,Tryd.ntmps131;go_wp2
 go_loop [11] (fun i=>∃ k:Nat,k <= m /\ i = .int .i64 k /\ cmpL (a.drop k) (b.drop k) = cmpL a b) (fun i=>m - (intOf i).toNat)
 case atStart=>exact ⟨0,Nat.zero_le _,rfl,rfl⟩
 case round =>
  obtain ⟨k,hk,rfl,hr⟩:=hrel;have HR:=Lib.hid hr; clear hr
  by_cases hlt:k < m
  . skip
    obtain ⟨b1,off1,rfl,hc1⟩:=hca k hlt;obtain ⟨b2,off2,rfl,hc2⟩:=hcb k hlt;clear hca hcb;have HS:=Lib.hid (X8l (a:=a) (b:=b) (k:=k) (by rw [HMA.out]; exact hlt) (by rw [HMB.out]; exact hlt))
    obtain ⟨x,hx⟩:∃ x,ix a k = x:=⟨_,rfl⟩;obtain ⟨y,hy⟩:∃ y,ix b k = y:=⟨_,rfl⟩;rw [hx,hy] at HS;rw [hx] at hc1;rw [hy] at hc2;clear hx hy
    by_cases he:x = y
    . have hz:(X7n x y != 0) = false:=by unfold X7n; subst he; simp
      have HE:=Lib.hid he; clear he;go_wp2_with (go_at_call 154; refine (Q8u _ _ _).mono ?_; rintro e w' ⟨rfl,rfl⟩);go_round
      case rel=>exact ⟨k + 1,by omega,by go_num,by rw [<- HR.out,HS.out,if_pos HE.out]⟩
      case measure=>simp [intOf]; omega
    . have hz:(X7n x y != 0) = true:=by
       unfold X7n
       rcases Int.lt_or_gt_of_ne he with h | h
       . rw [if_pos h]; rfl
       . rw [if_neg (by omega),if_pos h]; rfl
      have HE:=Lib.hid he; clear he;go_wp2_with (go_at_call 154; refine (Q8u _ _ _).mono ?_; rintro e w' ⟨rfl,rfl⟩);go_ret;exact ⟨ret_int (by rw [<- HR.out,HS.out,if_neg HE.out]),rfl⟩
  . clear hca hcb
    go_wp2;go_ret;exact ⟨ret_int (by rw [<- HR.out,List.drop_eq_nil_of_le (by rw [HMA.out]; omega),List.drop_eq_nil_of_le (by rw [HMB.out]; omega)]; rfl),rfl⟩
theorem X2e (w:World) (u v:Value) (a b:List Int) (hu:IsInts w u a) (hv:IsInts w v b) :
    Calls Tryd.prog 109 #[u,v] w fun e w'=>e = .returned (.int .i64 (Q1m a b)) /\ w = w':=by
 have HU:=Lib.hid hu;have HV:=Lib.hid hv;obtain ⟨A,ca,rfl,hla,hcapa,hca⟩:=hu.opened;obtain ⟨B,cb,rfl,hlb,hcapb,hcb⟩:=hv.opened;clear hu hv hca hcb;unfold Q1m
 by_cases hab:a.length = b.length
 . rw [if_pos hab]
   have HAB:=Lib.hid hab;have hne:(((a.length:Nat):Int) != ((b.length:Nat):Int)) = false:=by simp [hab]
   clear hab;go_enter Tryd.func109,Tryd.ntmps109;go_wp2_with (go_at_call 131; refine (X1w _ _ _ a b HU.out HV.out HAB.out).mono ?_; rintro e w' ⟨rfl,rfl⟩);go_ret;exact ⟨rfl,rfl⟩
 . rw [if_neg hab]
   have hne:(((a.length:Nat):Int) != ((b.length:Nat):Int)) = true:=by simp; omega
   clear hab;go_enter Tryd.func109,Tryd.ntmps109;go_wp2;go_ret;exact ⟨rfl,rfl⟩
end Go.Proofs
namespace Go.Tw
theorem Q3w (A B:Nat):A &&& B = (A % 256 &&& B % 256) + 256 * (A / 256 &&& B / 256):=by
 have h:=Nat.div_add_mod (A &&& B) 256;rw [show (256:Nat) = 2 ^ 8 from rfl,Nat.and_mod_two_pow,Nat.and_div_two_pow] at h
 rw [show (256:Nat) = 2 ^ 8 from rfl]
 omega
def Q0g:List Nat -> Nat
 | []=>0
 | y :: l=>y + 256 * Q0g l
def X0c (m:Nat):Nat -> Nat
 | 0=>0
 | k + 1=>m + 256 * X0c m k
def f1 (y:Nat):Nat:=(y / 2 &&& 85) + (y &&& 85)
def f2 (y:Nat):Nat:=(y / 4 &&& 51) + (y &&& 51)
def f3 (y:Nat):Nat:=(y / 16 + y) &&& 15
theorem Q5u (A m:Nat):A &&& m <= m:=Nat.and_le_right
theorem step1:∀ l:List Nat,(∀ y ∈ l,y < 256) -> (Q0g l / 2 &&& X0c 85 l.length) + (Q0g l &&& X0c 85 l.length) = Q0g (l.map f1)
 | [],_=>rfl
 | y :: l,h=>by
   have hy:=h y (List.mem_cons_self ..);have ih:=step1 l (fun z hz=>h z (List.mem_cons_of_mem _ hz));rw [List.length_cons,X0c,Q0g,List.map_cons,Q0g,<- ih];rw [Q3w ((y + 256 * Q0g l) / 2),Q3w (y + 256 * Q0g l)];rw [show (y + 256 * Q0g l) / 2 % 256 = y / 2 + 128 * (Q0g l % 2) from by omega,show (y + 256 * Q0g l) / 2 / 256 = Q0g l / 2 from by omega,show (85 + 256 * X0c 85 l.length) % 256 = 85 from by omega,show (85 + 256 * X0c 85 l.length) / 256 = X0c 85 l.length from by omega,show (y + 256 * Q0g l) % 256 = y from by omega,show (y + 256 * Q0g l) / 256 = Q0g l from by omega]
   have e:∀ y,y < 256 -> ∀ c,c < 2 -> (y / 2 + 128 * c) &&& 85 = y / 2 &&& 85:=by decide +kernel
   rw [e y hy _ (by omega),f1]
   omega
theorem step2:∀ l:List Nat,(∀ y ∈ l,y < 256) -> (Q0g l / 4 &&& X0c 51 l.length) + (Q0g l &&& X0c 51 l.length) = Q0g (l.map f2)
 | [],_=>rfl
 | y :: l,h=>by
   have hy:=h y (List.mem_cons_self ..);have ih:=step2 l (fun z hz=>h z (List.mem_cons_of_mem _ hz));rw [List.length_cons,X0c,Q0g,List.map_cons,Q0g,<- ih];rw [Q3w ((y + 256 * Q0g l) / 4),Q3w (y + 256 * Q0g l)];rw [show (y + 256 * Q0g l) / 4 % 256 = y / 4 + 64 * (Q0g l % 4) from by omega,show (y + 256 * Q0g l) / 4 / 256 = Q0g l / 4 from by omega,show (51 + 256 * X0c 51 l.length) % 256 = 51 from by omega,show (51 + 256 * X0c 51 l.length) / 256 = X0c 51 l.length from by omega,show (y + 256 * Q0g l) % 256 = y from by omega,show (y + 256 * Q0g l) / 256 = Q0g l from by omega]
   have e:∀ y,y < 256 -> ∀ c,c < 4 -> (y / 4 + 64 * c) &&& 51 = y / 4 &&& 51:=by decide +kernel
   rw [e y hy _ (by omega),f2]
   omega
theorem Y1d:∀ l:List Nat,(∀ y ∈ l,y % 16 <= 4) -> Q0g l % 16 <= 4
 | [],_=>by simp [Q0g]
 | y :: l,h=>by
   have:=h y (List.mem_cons_self ..);rw [Q0g]; omega
theorem step3:∀ l:List Nat,(∀ y ∈ l,y % 16 <= 4 /\ y / 16 <= 4) -> (Q0g l / 16 + Q0g l) &&& X0c 15 l.length = Q0g (l.map f3)
 | [],_=>rfl
 | y :: l,h=>by
   have hy:=h y (List.mem_cons_self ..);have ih:=step3 l (fun z hz=>h z (List.mem_cons_of_mem _ hz));have hn:=Y1d l (fun z hz=>(h z (List.mem_cons_of_mem _ hz)).1);rw [List.length_cons,X0c,Q0g,List.map_cons,Q0g,<- ih];rw [Q3w ((y + 256 * Q0g l) / 16 + (y + 256 * Q0g l))];rw [show ((y + 256 * Q0g l) / 16 + (y + 256 * Q0g l)) % 256 = y / 16 + y + 16 * (Q0g l % 16) from by omega,show ((y + 256 * Q0g l) / 16 + (y + 256 * Q0g l)) / 256 = Q0g l / 16 + Q0g l from by omega,show (15 + 256 * X0c 15 l.length) % 256 = 15 from by omega,show (15 + 256 * X0c 15 l.length) / 256 = X0c 15 l.length from by omega]
   have e:∀ y,y < 69 -> ∀ c,c < 5 -> (y / 16 + y + 16 * c) &&& 15 = (y / 16 + y) &&& 15:=by decide +kernel
   rw [e y (by omega) _ (by omega),f3]
def Q4k (n k:Nat):Nat:=(List.range k).countP fun i=>n.testBit i
theorem X6v (n k:Nat):Q4k n (8 + k) = Q4k (n % 256) 8 + Q4k (n / 256) k:=by
 unfold Q4k;rw [List.range_add,List.countP_append,List.countP_map]
 congr 1
 . refine List.countP_congr fun i hi=>?_
   rw [show (256:Nat) = 2 ^ 8 from rfl,Nat.testBit_mod_two_pow,decide_eq_true (List.mem_range.1 hi),Bool.true_and]
 . refine List.countP_congr fun i _=>?_
   rw [show (256:Nat) = 2 ^ 8 from rfl,Nat.testBit_div_two_pow]
   show n.testBit (8 + i) = true ↔ _;rw [Nat.add_comm]
theorem Q6p:∀ y,y < 256 -> f3 (f2 (f1 y)) = Q4k y 8 /\ f1 y < 256 /\ f2 (f1 y) % 16 <= 4 /\ f2 (f1 y) / 16 <= 4 /\ Q4k y 8 <= 8:=by decide +kernel
def byteAt (n j:Nat):Nat:=n / 256 ^ j % 256
theorem X9z {n:Nat} (h:n < 2 ^ 64):Q0g [byteAt n 0,byteAt n 1,byteAt n 2,byteAt n 3,byteAt n 4,byteAt n 5,byteAt n 6,byteAt n 7] = n:=by
 simp only [Q0g,byteAt];omega
theorem Y2g (n:Nat):Q4k n 64 = Q4k (byteAt n 0) 8 + Q4k (byteAt n 1) 8 + Q4k (byteAt n 2) 8 + Q4k (byteAt n 3) 8 + Q4k (byteAt n 4) 8 + Q4k (byteAt n 5) 8 + Q4k (byteAt n 6) 8 + Q4k (byteAt n 7) 8:=by
 rw [show (64:Nat) = 8 + (8 + (8 + (8 + (8 + (8 + (8 + (8 + 0))))))) from rfl]
 simp only [X6v];have e:Q4k (n / 256 / 256 / 256 / 256 / 256 / 256 / 256 / 256) 0 = 0:=rfl;rw [e];simp only [byteAt,Nat.div_div_eq_div_mul];simp only [Nat.reducePow,Nat.reduceMul,Nat.div_one];omega
def Q9t (x:Nat):Nat:=(x / 2 &&& 6148914691236517205) + (x &&& 6148914691236517205)
def X0l (x:Nat):Nat:=(x / 4 &&& 3689348814741910323) + (x &&& 3689348814741910323)
def X8b (x:Nat):Nat:=(x / 16 + x) &&& 1085102592571150095
theorem X4y {n:Nat} (h:n < 2 ^ 64):∃ c0 c1 c2 c3 c4 c5 c6 c7:Nat,X8b (X0l (Q9t n)) = Q0g [c0,c1,c2,c3,c4,c5,c6,c7] /\ c0 <= 8 /\ c1 <= 8 /\ c2 <= 8 /\ c3 <= 8 /\ c4 <= 8 /\ c5 <= 8 /\ c6 <= 8 /\ c7 <= 8 /\ Q4k n 64 = c0 + c1 + c2 + c3 + c4 + c5 + c6 + c7:=by
 obtain ⟨l,hl⟩:∃ l,[byteAt n 0,byteAt n 1,byteAt n 2,byteAt n 3,byteAt n 4,byteAt n 5,byteAt n 6,byteAt n 7] = l:=⟨_,rfl⟩;have hb:∀ y ∈ l,y < 256:=by
  subst hl;intro y hy;simp only [List.mem_cons,List.not_mem_nil,or_false] at hy
  rcases hy with rfl | rfl | rfl | rfl | rfl | rfl | rfl | rfl <;> exact Nat.mod_lt _ (by decide)
 have hlen:l.length = 8:=by subst hl; rfl
 have e1:Q9t n = Q0g (l.map f1):=by
  rw [<- step1 l hb,hlen,<- X9z h,hl]; rfl
 have hb1:∀ y ∈ l.map f1,y < 256:=fun y hy=>by obtain ⟨z,hz,rfl⟩:=List.mem_map.1 hy; exact (Q6p z (hb z hz)).2.1
 have e2:X0l (Q9t n) = Q0g ((l.map f1).map f2):=by
  rw [e1,<- step2 _ hb1,List.length_map,hlen]; rfl
 have hb2:∀ y ∈ (l.map f1).map f2,y % 16 <= 4 /\ y / 16 <= 4:=fun y hy=>by
  obtain ⟨u,hu,rfl⟩:=List.mem_map.1 hy;obtain ⟨z,hz,rfl⟩:=List.mem_map.1 hu;exact ⟨(Q6p z (hb z hz)).2.2.1,(Q6p z (hb z hz)).2.2.2.1⟩
 have e3:X8b (X0l (Q9t n)) = Q0g (((l.map f1).map f2).map f3):=by
  rw [e2,<- step3 _ hb2,List.length_map,List.length_map,hlen]; rfl
 have hp:=fun j=>Q6p (byteAt n j) (Nat.mod_lt _ (by decide))
 refine ⟨Q4k (byteAt n 0) 8,Q4k (byteAt n 1) 8,Q4k (byteAt n 2) 8,Q4k (byteAt n 3) 8,Q4k (byteAt n 4) 8,Q4k (byteAt n 5) 8,Q4k (byteAt n 6) 8,Q4k (byteAt n 7) 8,?_,
  (hp 0).2.2.2.2,(hp 1).2.2.2.2,(hp 2).2.2.2.2,(hp 3).2.2.2.2,(hp 4).2.2.2.2,(hp 5).2.2.2.2,(hp 6).2.2.2.2,(hp 7).2.2.2.2,Y2g n⟩
 rw [e3,<- hl];simp only [List.map_cons,List.map_nil,(hp _).1]
theorem X8h {x r q m:Nat} (hm:0 < m) (h:x = r + m * q) (hr:r < m):x / m = q:=by
 rw [h,Nat.add_mul_div_left _ _ hm,Nat.div_eq_of_lt hr,Nat.zero_add]
theorem Y2f {x r q m:Nat} (h:x = r + m * q) (hr:r < m):x % m = r:=by
 rw [h,Nat.add_mul_mod_self_left,Nat.mod_eq_of_lt hr]
theorem X9q {c0 c1 c2 c3 c4 c5 c6 c7 x a b c:Nat} (hx:x = Q0g [c0,c1,c2,c3,c4,c5,c6,c7]) (h0:c0 <= 8) (h1:c1 <= 8) (h2:c2 <= 8) (h3:c3 <= 8) (h4:c4 <= 8) (h5:c5 <= 8) (h6:c6 <= 8) (h7:c7 <= 8)
    (ea:x + x / 256 = a) (eb:a + a / 65536 = b) (ec:b + b / 4294967296 = c) :
    x <= 600000000000000000 /\ a <= 605000000000000000 /\ b <= 606000000000000000 /\ c <= 607000000000000000 /\ c % 128 = c0 + c1 + c2 + c3 + c4 + c5 + c6 + c7:=by
 simp only [Q0g] at hx;have hx':x = c0 + 256 * (c1 + 256 * c2 + 65536 * c3 + 16777216 * c4 + 4294967296 * c5 + 1099511627776 * c6 + 281474976710656 * c7):=by clear ea eb ec; rw [hx]; omega
 clear hx;rw [X8h (by decide) hx' (by clear hx' ea eb ec; omega)] at ea
 have ha:a = ((c0 + c1) + 256 * (c1 + c2)) + 65536 * ((c2 + c3) + 256 * (c3 + c4) + 65536 * (c4 + c5) + 16777216 * (c5 + c6) + 4294967296 * (c6 + c7) + 1099511627776 * c7):=by rw [<- ea,hx']; clear hx' ea eb ec; omega
 clear ea;rw [X8h (by decide) ha (by clear ha hx' eb ec; omega)] at eb
 have hb:b = ((c0 + c1 + c2 + c3) + 256 * (c1 + c2 + c3 + c4) + 65536 * (c2 + c3 + c4 + c5) + 16777216 * (c3 + c4 + c5 + c6)) + 4294967296 * ((c4 + c5 + c6 + c7) + 256 * (c5 + c6 + c7) + 65536 * (c6 + c7) + 16777216 * c7):=by rw [<- eb,ha]; clear ha hx' eb ec; omega
 clear eb;rw [X8h (by decide) hb (by clear hb ha hx' ec; omega)] at ec
 have hc:c = (c0 + c1 + c2 + c3 + c4 + c5 + c6 + c7) + 128 * (2 * ((c1 + c2 + c3 + c4 + c5 + c6 + c7) + 256 * (c2 + c3 + c4 + c5 + c6 + c7) + 65536 * (c3 + c4 + c5 + c6 + c7) + 16777216 * (c4 + c5 + c6 + c7) + 4294967296 * (c5 + c6 + c7) + 1099511627776 * (c6 + c7) + 281474976710656 * c7)):=by rw [<- ec,hb]; clear hb ha hx' ec; omega
 clear ec;refine ⟨by rw [hx']; clear hx' ha hb hc; omega,by rw [ha]; clear hx' ha hb hc; omega,by rw [hb]; clear hx' ha hb hc; omega,by rw [hc]; clear hx' ha hb hc; omega,Y2f hc (by clear hx' ha hb hc; omega)⟩
theorem X6a {n x a b c:Nat} (h:n < 2 ^ 64) (ex:X8b (X0l (Q9t n)) = x) (ea:x + x / 256 = a) (eb:a + a / 65536 = b) (ec:b + b / 4294967296 = c) :
    x <= 600000000000000000 /\ a <= 605000000000000000 /\ b <= 606000000000000000 /\ c <= 607000000000000000 /\ c % 128 = Q4k n 64:=by
 obtain ⟨c0,c1,c2,c3,c4,c5,c6,c7,hx,h0,h1,h2,h3,h4,h5,h6,h7,hp⟩:=X4y h;rw [ex] at hx;rw [hp];exact X9q hx h0 h1 h2 h3 h4 h5 h6 h7 ea eb ec
end Go.Tw
namespace Go.Proofs
open Go.RowKit Go.Tw Go.Flow
theorem Y2e (n:Int) (h0:0 <= n) (h1:n < 2 ^ 64):IntKind.u64.wrap n = n:=by
 simp [IntKind.wrap,IntKind.bits,IntKind.signed]; omega
theorem Q6w {n:Nat} (h:n < 18446744073709551616):IntKind.u64.wrap (n:Int) = (n:Int):=Y2e _ (by omega) (by omega)
theorem Y2k {a b:Nat} (ha:a < 2 ^ 64) (hb:b < 2 ^ 64):bits .and .u64 (a:Int) (b:Int) = ((a &&& b:Nat):Int):=(bits_nat .u64 64 (by decide) Y2e a b ha hb).1
theorem u1 {n:Nat} (h:n < 2 ^ 64):IntKind.u64.wrap (bits .and .u64 ((n:Int) / 2) 6148914691236517205 + bits .and .u64 (n:Int) 6148914691236517205) = (Q9t n:Int):=by
 have e1:bits .and .u64 ((n:Int) / 2) 6148914691236517205 = ((n / 2 &&& 6148914691236517205:Nat):Int):=Y2k (a:=n / 2) (b:=6148914691236517205) (by omega) (by decide)
 have e2:bits .and .u64 (n:Int) 6148914691236517205 = ((n &&& 6148914691236517205:Nat):Int):=Y2k (a:=n) (b:=6148914691236517205) h (by decide)
 have b1:=Q5u (n / 2) 6148914691236517205;have b2:=Q5u n 6148914691236517205;rw [e1,e2,<- Int.natCast_add];exact Q6w (by omega)
theorem u2 {n:Nat} (h:n < 2 ^ 64):IntKind.u64.wrap (bits .and .u64 ((n:Int) / 4) 3689348814741910323 + bits .and .u64 (n:Int) 3689348814741910323) = (X0l n:Int):=by
 have e1:bits .and .u64 ((n:Int) / 4) 3689348814741910323 = ((n / 4 &&& 3689348814741910323:Nat):Int):=Y2k (a:=n / 4) (b:=3689348814741910323) (by omega) (by decide)
 have e2:bits .and .u64 (n:Int) 3689348814741910323 = ((n &&& 3689348814741910323:Nat):Int):=Y2k (a:=n) (b:=3689348814741910323) h (by decide)
 have b1:=Q5u (n / 4) 3689348814741910323;have b2:=Q5u n 3689348814741910323;rw [e1,e2,<- Int.natCast_add];exact Q6w (by omega)
theorem X8p (n:Nat):Q9t n < 2 ^ 64:=by
 have b1:=Q5u (n / 2) 6148914691236517205;have b2:=Q5u n 6148914691236517205;unfold Q9t; omega
theorem X8r (n:Nat):X0l n <= 7378697629483820646:=by
 have b1:=Q5u (n / 4) 3689348814741910323;have b2:=Q5u n 3689348814741910323;unfold X0l; omega
theorem u3 {n:Nat} (h:n <= 7378697629483820646):bits .and .u64 (IntKind.u64.wrap ((n:Int) / 16 + (n:Int))) 1085102592571150095 = (X8b n:Int):=by
 have e1:IntKind.u64.wrap ((n:Int) / 16 + (n:Int)) = ((n / 16 + n:Nat):Int):=Q6w (n:=n / 16 + n) (by omega)
 rw [e1];exact Y2k (a:=n / 16 + n) (b:=1085102592571150095) (by omega) (by decide)
theorem u4 {n:Nat} (h:n < 2 ^ 63):IntKind.u64.wrap ((n:Int) + (n:Int) / 256) = ((n + n / 256:Nat):Int):=Q6w (n:=n + n / 256) (by omega)
theorem u5 {n:Nat} (h:n < 2 ^ 63):IntKind.u64.wrap ((n:Int) + (n:Int) / 65536) = ((n + n / 65536:Nat):Int):=Q6w (n:=n + n / 65536) (by omega)
theorem u6 {n:Nat} (h:n < 2 ^ 63):IntKind.u64.wrap ((n:Int) + (n:Int) / 4294967296) = ((n + n / 4294967296:Nat):Int):=Q6w (n:=n + n / 4294967296) (by omega)
theorem u7 {n:Nat} (h:n < 2 ^ 62):bits .and .i64 (wrap64 (n:Int)) 127 = ((n % 128:Nat):Int):=by
 have e:wrap64 (n:Int) = (n:Int):=by unfold wrap64; omega
 have e2:bits .and .i64 (n:Int) 127 = ((n &&& 127:Nat):Int):=X9p (a:=n) (b:=127) h (by decide)
 rw [e,e2,show (127:Nat) = 2 ^ 7 - 1 from rfl,Nat.and_two_pow_sub_one_eq_mod]
theorem X5k (w:World) (n:Nat) (hn:n < 2 ^ 64) :
    Calls Tryd.prog 141 #[.int .u64 n] w fun e w'=>e = .returned (.int .i64 (Q4k n 64:Nat)) /\ w = w':=by
 have HN:=Lib.hid hn;clear hn;go_enter Tryd.func141,Tryd.ntmps141;go_wp2;go_ret;refine ⟨ret_int ?_,rfl⟩;obtain ⟨x,hx⟩:∃ x,X8b (X0l (Q9t n)) = x:=⟨_,rfl⟩;obtain ⟨a,ha⟩:∃ a,x + x / 256 = a:=⟨_,rfl⟩;obtain ⟨b,hb⟩:∃ b,a + a / 65536 = b:=⟨_,rfl⟩;obtain ⟨c,hc⟩:∃ c,b + b / 4294967296 = c:=⟨_,rfl⟩;obtain ⟨bx,ba,bb,bc,e⟩:=X6a HN.out hx ha hb hc;rw [u1 HN.out,u2 (X8p n),u3 (X8r _),hx,u4 (by omega),ha,u5 (by omega),hb,u6 (by omega),hc,<- e]
 exact u7 (by omega)
theorem X9k (w:World) (n:Nat) (hn:n < 2 ^ 64) :
    Calls Tryd.prog 125 #[.int .u64 n] w fun e w'=>e = .returned (.int .i64 (Q4k n 64:Nat)) /\ w = w':=by
 have HN:=Lib.hid hn;clear hn;go_enter Tryd.func125,Tryd.ntmps125;go_wp2_with (go_at_call 141; refine (X5k _ _ HN.out).mono ?_; rintro e w' ⟨rfl,rfl⟩);go_ret;exact ⟨rfl,rfl⟩
end Go.Proofs
namespace Go.Tw
theorem Q0n {l:List Int}:firstErr l = 0 ↔ ∀ x ∈ l,x = 0:=by
 induction l with
 | nil=>simp [firstErr]
 | cons y l ih =>
   unfold firstErr
   by_cases h:y = 0
   . simp [h,ih]
   . simp [h]
structure Fit (t:Tree):Prop where
 nb:t.basics.length <= 1000
 nc:t.causes.length <= 1000
 ng:t.gates.length <= 1000
 inp:∀ k,k < t.gates.length -> ∀ x ∈ gInputs t.gates k,0 <= x /\ x < (t.basics.length:Int) + k
theorem Q3d {l:List Int} {n:Int} (h:setErr l n = 0):(∀ x ∈ l,0 <= x /\ x < n) /\ ascB l = true:=by
 unfold setErr at h
 split at h
 . cases h
 . split at h
   . rename_i h1 h2
     refine ⟨fun x hx=>?_,h2⟩;unfold outB at h1;rw [Bool.not_eq_true,List.any_eq_false] at h1;have:=h1 x hx;simp only [decide_eq_true_eq] at this;omega
   . cases h
structure Valid (t:Tree):Prop where
 nb:1 <= t.basics.length
 ng:1 <= t.gates.length
 size:t.size <= 12
 ng':t.gates.length <= 32
 event:∀ i,i < t.size -> t.eventErr i = 0
 gate:∀ i,i < t.gates.length -> t.gateErrAt i = 0
theorem Valid.of {t:Tree} (h:t.err = 0):Valid t:=by
 unfold Tree.err at h
 split at h
 . cases h
 . split at h
   . cases h
   . rename_i h1 h2
     rw [Q0n] at h;refine ⟨by omega,by omega,by omega,by omega,fun i hi=>h _ ?_,fun i hi=>h _ ?_⟩
     . exact List.mem_append_left _ (List.mem_map.2 ⟨i,List.mem_range.2 hi,rfl⟩)
     . exact List.mem_append_right _ (List.mem_map.2 ⟨i,List.mem_range.2 hi,rfl⟩)
theorem Valid.inputs {t:Tree} (h:Valid t) {k:Nat} (hk:k < t.gates.length):listErr (gInputs t.gates k) ((t.basics.length:Int) + k) = 0:=by
 have:=h.gate k hk;unfold Tree.gateErrAt gateErr at this;rw [Q0n] at this;exact this _ (by simp)
theorem Q3v {l:List Int} {n:Int} (h:listErr l n = 0):l ≠ [] /\ setErr l n = 0:=by
 unfold listErr at h
 split at h
 . cases h
 . exact ⟨‹_›,h⟩
theorem Valid.fit {t:Tree} (h:Valid t):Fit t:=by
 have:=h.size;unfold Tree.size at this;have:=h.ng';exact ⟨by omega,by omega,by omega,fun k hk=>(Q3d (Q3v (h.inputs hk)).2).1⟩
theorem Valid.chance {t:Tree} (h:Valid t) {i:Nat} (hi:i < t.size):0 <= t.chanceAt i /\ t.chanceAt i <= 16:=by
 have:=h.event i hi;unfold Tree.eventErr at this;rw [Q0n] at this;have:=this (rangeErr (t.chanceAt i) 0 16) (by simp)
 unfold rangeErr at this
 split at this
 . cases this
 . omega
end Go.Tw
namespace Go.Tw
open Go.RowKit
theorem X9u {x:Int} {l:List Int} (h:ascB (x :: l) = true):∀ y ∈ l,x < y:=by
 induction l generalizing x with
 | nil=>intro y hy; cases hy
 | cons z l ih =>
   simp only [ascB,Bool.and_eq_true,decide_eq_true_eq] at h;intro y hy
   rcases List.mem_cons.1 hy with rfl | hy
   . exact h.1
   . exact Int.lt_trans h.1 (ih h.2 y hy)
theorem X9h {x:Int} {l:List Int} (h:ascB (x :: l) = true):ascB l = true:=by
 cases l with
 | nil=>rfl
 | cons z l=>simp only [ascB,Bool.and_eq_true] at h; exact h.2
theorem count_one (a:Nat) (p:Nat -> Bool):∀ k,(List.range k).countP (fun i=>p i && decide (i = a)) = if a < k then (if p a then 1 else 0) else 0
 | 0=>rfl
 | k + 1=>by
   rw [List.range_succ,List.countP_append,count_one a p k,List.countP_singleton]
   by_cases h:a < k
   . have h2:¬ k = a:=by omega
     have h3:a < k + 1:=by omega
     simp [h,h2,h3]
   . by_cases h2:k = a
     . subst h2; simp
     . have h3:¬ a < k + 1:=by omega
       simp [h,h2,h3]
theorem X2m (l:List Nat) (p q:Nat -> Bool) (h:∀ i ∈ l,¬ (p i = true /\ q i = true)):l.countP (fun i=>p i || q i) = l.countP p + l.countP q:=by
 induction l with
 | nil=>rfl
 | cons x l ih =>
   have h0:=h x (List.mem_cons_self ..);rw [List.countP_cons,List.countP_cons,List.countP_cons,ih (fun i hi=>h i (List.mem_cons_of_mem _ hi))];cases hp:p x <;> cases hq:q x <;> simp_all <;> omega
theorem Q5c (k:Nat) (p:Nat -> Bool):∀ l:List Int,ascB l = true -> (∀ x ∈ l,0 <= x /\ x < (k:Int)) -> (List.range k).countP (fun i=>p i && has l i) = l.countP fun x=>p x.toNat
 | [],_,_=>by simp [has]
 | x :: l,ha,hb=>by
   have h0:=hb x (List.mem_cons_self ..);have e:(List.range k).countP (fun i=>p i && has (x :: l) i) = (List.range k).countP (fun i=>(p i && decide (i = x.toNat)) || (p i && has l i)):=by
    refine List.countP_congr fun i _=>?_;rw [has_cons];have:(x == (i:Int)) = decide (i = x.toNat):=by
     by_cases h:x = (i:Int)
     . subst h; simp
     . rw [beq_false_of_ne h,decide_eq_false (by omega)]
    rw [this];cases p i <;> simp
   rw [e,X2m,count_one,if_pos (by omega),Q5c k p l (X9h ha) (fun y hy=>hb y (List.mem_cons_of_mem _ hy)),List.countP_cons]
   . omega
   . rintro i _ ⟨h1,h2⟩
     simp only [Bool.and_eq_true,decide_eq_true_eq] at h1 h2;have:=X9u ha (i:Int) (has_iff.1 h2.2);omega
theorem X3a {out:List Bool} {l:List Int} (ha:ascB l = true) (hb:∀ x ∈ l,0 <= x /\ x < 64):Q4k (Q1l out &&& Q1d l) 64 = failing out l:=by
 unfold Q4k failing;rw [<- Q5c 64 (fun i=>bx out i) l ha hb];refine List.countP_congr fun i _=>?_;rw [Nat.testBit_and,Q1n,Q5h (fun x hx=>(hb x hx).1)]
namespace Tree
def maskAt (t:Tree) (k:Nat):Nat:=if k < t.basics.length then 2 ^ k else Q1d (cMembers t.causes (k - t.basics.length))
def masks (t:Tree):List Int:=(List.range t.size).map fun k=>(t.maskAt k:Int)
def gt (t:Tree) (k:Nat):Nat × Int:=(Q1d (gInputs t.gates k),needOf (gKind t.gates k) (gNeed t.gates k) (gInputs t.gates k).length)
def gts (t:Tree):List (Nat × Int):=(List.range t.gates.length).map t.gt
def X1p (t:Tree) (s:Nat):Nat -> Nat
 | 0=>0
 | k + 1=>if s.testBit k then t.X1p s k ||| t.maskAt k else t.X1p s k
end Tree
theorem Q1w (t:Tree):t.masks.length = t.size:=by simp [Tree.masks]
theorem Q7k (t:Tree):t.gts.length = t.gates.length:=by simp [Tree.gts]
theorem Y0i {t:Tree} {k:Nat} (h:k < t.size):ix t.masks k = (t.maskAt k:Int):=by
 rw [ix_eq (by rw [Q1w]; exact h)]; simp [Tree.masks]
theorem Valid.members {t:Tree} (h:Valid t) {k:Nat} (hk:k < t.causes.length):∀ x ∈ cMembers t.causes k,0 <= x /\ x < (t.basics.length:Int):=by
 have h1:=h.event (t.basics.length + k) (by unfold Tree.size; omega)
 unfold Tree.eventErr at h1;rw [Q0n] at h1;have h2:=h1 (if t.basics.length + k < t.basics.length then 0 else listErr (cMembers t.causes (t.basics.length + k - t.basics.length)) t.basics.length) (by simp)
 rw [if_neg (by omega),Nat.add_sub_cancel_left] at h2
 exact (Q3d (Q3v h2).2).1
theorem Valid.X0r {t:Tree} (h:Valid t) {k:Nat} (hk:k < t.size):t.maskAt k < 2 ^ t.basics.length:=by
 unfold Tree.maskAt
 split
 . rename_i h1; exact Nat.pow_lt_pow_right (by omega) h1
 . exact Q7w h.nb (fun x hx=>(h.members (by unfold Tree.size at hk; omega) x hx).2)
theorem Valid.X1x {t:Tree} (h:Valid t) (s:Nat):∀ k,k <= t.size -> t.X1p s k < 2 ^ t.basics.length
 | 0,_=>Nat.two_pow_pos _
 | k + 1,hk=>by
   have ih:=h.X1x s k (by omega)
   rw [Tree.X1p]
   split
   . exact Nat.or_lt_two_pow ih (h.X0r (by omega))
   . exact ih
theorem X3m (t:Tree) (s i:Nat):∀ k,(t.X1p s k).testBit i = (List.range k).any fun j=>s.testBit j && (t.maskAt j).testBit i
 | 0=>by simp [Tree.X1p]
 | k + 1=>by
   rw [Tree.X1p,List.range_succ,List.any_append,<- X3m t s i k];cases h:s.testBit k
   . simp [h]
   . simp [h,Nat.testBit_or]
theorem Q6v (a b:Nat) (p:Nat -> Bool):(List.range (a + b)).any p = ((List.range a).any p || (List.range b).any fun j=>p (a + j)):=by
 rw [List.range_add,List.any_append,List.any_map]; rfl
theorem Y1g (n i:Nat) (p:Nat -> Bool):((List.range n).any fun j=>p j && decide (i = j)) = (decide (i < n) && p i):=by
 induction n with
 | zero=>rfl
 | succ n ih =>
   rw [List.range_succ,List.any_append,ih]
   by_cases h:i = n
   . subst h; simp
   . by_cases h2:i < n
     . have h3:i < n + 1:=by omega
       simp [h,h2,h3]
     . have h3:¬ i < n + 1:=by omega
       simp [h,h2,h3]
theorem Valid.X9y {t:Tree} (h:Valid t) (s:Nat):t.X1p s t.size = Q1l (t.basicsB (evN s)):=by
 apply Nat.eq_of_testBit_eq
 intro i;rw [Q1n]
 rcases Nat.lt_or_ge i t.basics.length with hi | hi
 . have e:bx (t.basicsB (evN s)) i = t.basicB (evN s) i:=by unfold bx Tree.basicsB; simp [hi]
   rw [e,X3m,Tree.size,Q6v];unfold Tree.basicB evN
   congr 1
   . have e2:((List.range t.basics.length).any fun j=>s.testBit j && (t.maskAt j).testBit i) = (List.range t.basics.length).any fun j=>s.testBit j && decide (i = j):=by
      rw [Bool.eq_iff_iff,List.any_eq_true,List.any_eq_true]
      constructor
      . rintro ⟨j,hj,h2⟩
        refine ⟨j,hj,?_⟩;unfold Tree.maskAt at h2
        rwa [if_pos (List.mem_range.1 hj),Q7g] at h2
      . rintro ⟨j,hj,h2⟩
        refine ⟨j,hj,?_⟩;unfold Tree.maskAt
        rwa [if_pos (List.mem_range.1 hj),Q7g]
     rw [e2,Y1g,decide_eq_true hi,Bool.true_and]
   . rw [Bool.eq_iff_iff,List.any_eq_true,List.any_eq_true]
     have e3:∀ j,j < t.causes.length -> (t.maskAt (t.basics.length + j)).testBit i = has (cMembers t.causes j) i:=by
      intro j hj;unfold Tree.maskAt;rw [if_neg (by omega),Nat.add_sub_cancel_left,Q5h (fun x hx=>(h.members hj x hx).1)]
     constructor
     . rintro ⟨j,hj,h2⟩
       exact ⟨j,hj,by rwa [e3 j (List.mem_range.1 hj)] at h2⟩
     . rintro ⟨j,hj,h2⟩
       exact ⟨j,hj,by rwa [e3 j (List.mem_range.1 hj)]⟩
 . rw [X1g (by simpa [Tree.basicsB] using hi)]
   exact Nat.testBit_lt_two_pow (Nat.lt_of_lt_of_le (h.X1x s _ (Nat.le_refl _)) (Nat.pow_le_pow_right (by omega) hi))
theorem Q3b (t:Tree) (ev:Nat -> Bool):∀ k,(t.gatesB ev k).length = t.basics.length + k
 | 0=>by simp [Tree.gatesB,Tree.basicsB]
 | k + 1=>by rw [Tree.gatesB,List.length_append,Q3b t ev k]; simp; omega
theorem Valid.X3w {t:Tree} (h:Valid t) (ev:Nat -> Bool) {k:Nat} (hk:k <= t.gates.length):Q1l (t.gatesB ev k) < 2 ^ 44:=by
 refine Nat.lt_of_lt_of_le (X4b _) ?_;rw [Q3b];have:=h.size; have:=h.ng';unfold Tree.size at this;exact Nat.pow_le_pow_right (by omega) (by have:=h.size; unfold Tree.size at this; omega)
theorem Valid.Q9g {t:Tree} (h:Valid t) {k:Nat} (hk:k < t.gates.length):ascB (gInputs t.gates k) = true /\ (∀ x ∈ gInputs t.gates k,0 <= x /\ x < 44):=by
 have h1:=Q3d (Q3v (h.inputs hk)).2;have:=h.size; have:=h.ng';unfold Tree.size at *;exact ⟨h1.2,fun x hx=>by have:=h1.1 x hx; omega⟩
theorem Valid.step {t:Tree} (h:Valid t) (ev:Nat -> Bool) {k:Nat} (hk:k < t.gates.length) :
    Q1l (t.gatesB ev (k + 1)) = if (t.gt k).2 <= (Q4k (Q1l (t.gatesB ev k) &&& (t.gt k).1) 64:Int) then Q1l (t.gatesB ev k) ||| 2 ^ (t.basics.length + k) else Q1l (t.gatesB ev k):=by
 obtain ⟨ha,hb⟩:=h.Q9g hk;rw [Tree.gatesB,X4t,Q3b,Tree.gt,X3a ha (fun x hx=>by have:=hb x hx; omega)]
 unfold gateB;simp only [decide_eq_true_eq]
theorem Valid.X9s {t:Tree} (h:Valid t) {k:Nat} (hk:k < t.gates.length):(t.gt k).1 < 2 ^ 44 :=
 Q7w (by omega) (fun x hx=>((h.Q9g hk).2 x hx).2)
def chV (c:List Int):Value:=.agg #[.int .i64 (ix c 0),.int .i64 (ix c 1),.int .i64 (ix c 2),.int .i64 (ix c 3),.int .i64 (ix c 4),.int .i64 (ix c 5),.int .i64 (ix c 6),.int .i64 (ix c 7),.int .i64 (ix c 8),.int .i64 (ix c 9),.int .i64 (ix c 10),.int .i64 (ix c 11)]
def RGt (_:World) (c:Nat -> Value) (x:Nat × Int):Prop:=c 0 = .int .i64 (x.1:Nat) /\ c 1 = .int .i64 x.2
theorem RGt.ext (w w':World) (c:Nat -> Value) (x:Nat × Int) (_:Ext w w') (h:RGt w c x):RGt w' c x:=h
def X6c:World -> Value -> List (Nat × Int) -> Prop:=Go.Tw.Rows 2 RGt
theorem X6c.ext {w w':World} {v:Value} {l:List (Nat × Int)} (h:X6c w v l) (hx:Ext w w'):X6c w' v l:=Rows.ext RGt.ext h hx
def evV (t:Tree) (c:List Int) (fv:Value):Value:=.agg #[.int .i64 t.size,fv,.int .i64 (ix c 0),.int .i64 (ix c 1),.int .i64 (ix c 2),.int .i64 (ix c 3),.int .i64 (ix c 4),.int .i64 (ix c 5),.int .i64 (ix c 6),.int .i64 (ix c 7),.int .i64 (ix c 8),.int .i64 (ix c 9),.int .i64 (ix c 10),.int .i64 (ix c 11)]
def noV (t:Tree) (c:List Int) (fv gv:Value):Value:=.agg #[.int .i64 t.size,fv,.int .i64 (ix c 0),.int .i64 (ix c 1),.int .i64 (ix c 2),.int .i64 (ix c 3),.int .i64 (ix c 4),.int .i64 (ix c 5),.int .i64 (ix c 6),.int .i64 (ix c 7),.int .i64 (ix c 8),.int .i64 (ix c 9),.int .i64 (ix c 10),.int .i64 (ix c 11),.int .i64 t.basics.length,gv]
structure X6f (w:World) (fv gv:Value) (t:Tree):Prop where
 fails:IsInts w fv t.masks
 gates:X6c w gv t.gts
theorem X6f.ext {w w':World} {fv gv:Value} {t:Tree} (h:X6f w fv gv t) (hx:Ext w w'):X6f w' fv gv t:=⟨h.fails.ext hx,h.gates.ext hx⟩
theorem X6c.opened {w:World} {v:Value} {t:Tree} (h:X6c w v t.gts) :
    ∃ A cap,v = .slice A t.gates.length cap /\ t.gates.length <= 17592186043904 /\ t.gates.length <= cap /\ ∀ k,k < t.gates.length -> ∃ b off,A = some ⟨b,off,none⟩ /\ b < w.heap.size /\
     w.cell? ⟨b,off + k * 2,none⟩ = some (.int .i64 ((t.gt k).1:Nat)) /\ w.cell? ⟨b,off + k * 2 + 1,none⟩ = some (.int .i64 (t.gt k).2):=by
 obtain ⟨c,⟨A,cap,hv,hn,hcap,hc⟩,h2⟩:=h;rw [Q7k] at hv hn hcap hc;refine ⟨A,cap,hv,hn,hcap,fun k hk=>?_⟩;obtain ⟨b,off,hA,h0⟩:=hc (k * 2) (by omega)
 obtain ⟨b',off',hA',h1⟩:=hc (k * 2 + 1) (by omega)
 rw [hA] at hA'; cases hA';obtain ⟨e0,e1⟩:=h2 k (by rw [Q7k]; exact hk)
 have e:t.gts[k]'(by rw [Q7k]; exact hk) = t.gt k:=by simp [Tree.gts]
 rw [e] at e0 e1;simp only [Nat.add_zero] at e0;refine ⟨b,off,hA,World.block_lt_of_cell? w _ h0,?_,?_⟩
 . rw [h0,e0]
 . rw [Nat.add_assoc]; exact h1.trans (congrArg some e1)
end Go.Tw
