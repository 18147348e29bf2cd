/- Contract of isName: a name by its bytes. Contracts: sets as bits; the order of sets. How many bits a number has, as math/bits reckons it: no program is in sight here. Contract of bits.OnesCount. What a tree without an error is like. The nodes of a tree as sets of bits, and what they come to: no program is in sight here. The contract of the reference's States and Fails. -/
import Derived.Test.YtgopmebjbkdfgaaGreatDoorTx03
import Derived.Test.YtgopmebjbkdfgaaGreatDoorTx01
set_option maxRecDepth 1000000
set_option maxHeartbeats 64000000
set_option linter.unusedVariables false
set_option linter.unusedSimpArgs false
set_option linter.constructorNameAsVariable false
namespace Go.Proofs
open Go.RowKit Go.Tw Go.Flow
def Q1r (first:Bool):List UInt8 -> Bool
 | []=>true
 | c :: l=>(Q2i c || (!first && Q4m c)) && Q1r false l
theorem X3m:∀ l:List UInt8,Q1r false l = l.all fun c=>Q2i c || Q4m c
 | []=>rfl
 | c :: l=>by simp [Q1r,X3m l]
theorem Q2d (s:ByteArray):nameB s = (Q1r true s.data.toList && (decide (s.data.toList ≠ []) && decide (s.data.toList.length <= 24))):=by
 unfold nameB;cases s.data.toList with
 | nil=>rfl
 | cons c l =>
   simp only [Q1r,X3m,Bool.not_true,Bool.false_and,Bool.or_false,List.length_cons];rw [show decide (c :: l ≠ []) = true from by simp,Bool.true_and]
   congr 1
theorem Y5l (s:ByteArray) (pos:Nat) (h:pos < s.size):s.data.toList.drop pos = s[pos]'h :: s.data.toList.drop (pos + 1):=by
 have h':pos < s.data.toList.length:=by simpa using h
 rw [List.drop_eq_getElem_cons h'];rfl
theorem X8j (c:UInt8):Q2i c = (decide (97 <= c.toNat /\ c.toNat <= 122) || decide (65 <= c.toNat /\ c.toNat <= 90)):=by
 unfold Q2i;simp only [UInt8.le_iff_toNat_le];simp
theorem Y0x (c:UInt8):Q4m c = (decide (c.toNat = 95) || decide (48 <= c.toNat /\ c.toNat <= 57)):=by
 unfold Q4m;simp only [UInt8.le_iff_toNat_le];rw [show (c == 95) = decide (c.toNat = 95) from by rw [show (c == 95) = decide (c = 95) from rfl]; exact decide_eq_decide.2 ⟨fun h=>by subst h; rfl,fun h=>UInt8.toNat_inj.1 h⟩]
 simp
theorem Y8y (s:ByteArray) (pos:Nat) (h:pos < s.size):∃ n d,Utf8.decode s pos = (n,d) /\ 1 <= d /\ (n < 128 -> n = (s[pos]'h).toNat /\ d = 1) /\ (128 <= n -> 128 <= (s[pos]'h).toNat):=by
 by_cases ha:(s[pos]'h).toNat < 128
 . exact ⟨_,_,decode_ascii s pos h ha,Nat.le_refl _,fun _=>⟨rfl,rfl⟩,fun h'=>h'⟩
 . have:=decode_high s pos h (by omega)
   obtain ⟨n,d,hnd⟩:∃ n d,Utf8.decode s pos = (n,d):=⟨_,_,rfl⟩;rw [hnd] at this;exact ⟨n,d,hnd,this.2,fun h'=>by have:=this.1; omega,fun _=>by omega⟩
theorem Y6b {s:ByteArray} (h:s.toList = []):s.data.toList = []:=by rw [toList_nil_iff_emptyBytes] at h; subst h; rfl
theorem Y8r {s:ByteArray} (h:¬ s.toList = []):s.data.toList ≠ []:=fun e=>h (by
 rw [toList_nil_iff_emptyBytes];obtain ⟨⟨l⟩⟩:=s;simp only at e;subst e; rfl)
theorem Y8b (w:World) (s:ByteArray) (hs:Short s) :
    Calls Tryz.prog 104 #[.string s] w fun e w'=>e = .returned (.bool (nameB s)) /\ Ext w w':=by
 unfold Short at hs;go_enter Tryz.func104,Tryz.ntmps104;go_wp2
 go_loopw [9] (fun _ w'=>∃ pos:Nat,w' = w.iter s pos /\ Q1r (pos == 0) (s.data.toList.drop pos) = Q1r true s.data.toList) (fun _ w'=>s.size - w'.iterPos w.heap.size)
 case atStart=>exact ⟨0,rfl,rfl⟩
 case round =>
  obtain ⟨pos,rfl,hc⟩:=hrel;have HC:=Lib.hid hc; clear hc
  by_cases hp:pos < s.size
  . obtain ⟨n,d,hd,hd1,hn1,hn2⟩:=Y8y s pos hp
    have hnx:∀ ty,(Instr.next (.pointer (some ⟨w.heap.size,0,none⟩)) true ty).run Tryz.prog (w.iter s pos) = .ok (.tuple #[.bool true,.int .i64 pos,.int .i32 n]) (w.iter s (pos + d)):=fun ty=>by
     rw [run_next_any w s pos ty hp,hd]
    have HB:=Lib.hid (Y5l s pos hp);have HL:=Lib.hid (X8j (s[pos]'hp));have HO:=Lib.hid (Y0x (s[pos]'hp));obtain ⟨c,hcc⟩:∃ c,s[pos]'hp = c:=⟨_,rfl⟩;rw [hcc] at hn1 hn2 HB HL HO;have HN1:=Lib.hid hn1;have HN2:=Lib.hid hn2;clear hcc hd hn1 hn2;have hcl:(65 <= n /\ n <= 90) ∨ (97 <= n /\ n <= 122) ∨ (48 <= n /\ n <= 57) ∨ n = 95 ∨ n < 48 ∨ (58 <= n /\ n < 65) ∨ (91 <= n /\ n < 97 /\ n ≠ 95) ∨ 123 <= n:=by omega
    obtain ⟨N,hN⟩:∃ N:Int,(n:Int) = N:=⟨_,rfl⟩;rw [hN] at hnx
    rcases hcl with hcl | hcl | hcl | hcl | hcl | hcl | hcl | hcl
    . have f0:65 <= N:=by omega
      have f1:N <= 90:=by omega
      have HX:Hid (Q2i c = true):=by
       exact (by rw [HL.out,<- (HN1.out (by omega)).1]; simp; omega:Q2i c = true)
      have HD:Hid (d = 1):=by exact (HN1.out (by omega)).2
      clear hcl hN;go_wp2;go_roundw
      case rel=>exact ⟨pos + d,rfl,by rw [<- HC.out,HB.out,HD.out]; simp [Q1r,HX.out]⟩
      case measure=>simp; omega
    . have f0:65 <= N:=by omega
      have f1:¬ N <= 90:=by omega
      have f2:97 <= N:=by omega
      have f3:N <= 122:=by omega
      have HX:Hid (Q2i c = true):=by
       exact (by rw [HL.out,<- (HN1.out (by omega)).1]; simp; omega:Q2i c = true)
      have HD:Hid (d = 1):=by exact (HN1.out (by omega)).2
      clear hcl hN;go_wp2;go_roundw
      case rel=>exact ⟨pos + d,rfl,by rw [<- HC.out,HB.out,HD.out]; simp [Q1r,HX.out]⟩
      case measure=>simp; omega
    . have f0:¬ 65 <= N:=by omega
      have f1:¬ 97 <= N:=by omega
      have f2:48 <= N:=by omega
      have f3:N <= 57:=by omega
      have HX:Hid (Q2i c = false /\ Q4m c = true):=by
       exact (by rw [HL.out,HO.out,<- (HN1.out (by omega)).1]; simp; omega:Q2i c = false /\ Q4m c = true)
      have HD:Hid (d = 1):=by exact (HN1.out (by omega)).2
      clear hcl hN
      by_cases h0:pos = 0
      . subst h0
        go_wp2;go_ret;exact ⟨Q1j (by rw [Q2d,<- HC.out,HB.out]; simp [Q1r,HX.out.1]),Ext.box _ _⟩
      . have h0':(((pos:Nat):Int) == 0) = false:=by rw [beq_eq_false_iff_ne]; omega
        have HP:=Lib.hid h0; clear h0;go_wp2;go_roundw
        case rel=>exact ⟨pos + d,rfl,by rw [<- HC.out,HB.out,HD.out]; simp [Q1r,HX.out.1,HX.out.2,HP.out]⟩
        case measure=>simp; omega
    . have f0:65 <= N:=by omega
      have f1:¬ N <= 90:=by omega
      have f2:¬ 97 <= N:=by omega
      have f3:48 <= N:=by omega
      have f4:¬ N <= 57:=by omega
      have f5:(N == 95) = true:=by rw [beq_iff_eq]; omega
      have HX:Hid (Q2i c = false /\ Q4m c = true):=by
       exact (by rw [HL.out,HO.out,<- (HN1.out (by omega)).1]; simp; omega:Q2i c = false /\ Q4m c = true)
      have HD:Hid (d = 1):=by exact (HN1.out (by omega)).2
      clear hcl hN
      by_cases h0:pos = 0
      . subst h0
        go_wp2;go_ret;exact ⟨Q1j (by rw [Q2d,<- HC.out,HB.out]; simp [Q1r,HX.out.1]),Ext.box _ _⟩
      . have h0':(((pos:Nat):Int) == 0) = false:=by rw [beq_eq_false_iff_ne]; omega
        have HP:=Lib.hid h0; clear h0;go_wp2;go_roundw
        case rel=>exact ⟨pos + d,rfl,by rw [<- HC.out,HB.out,HD.out]; simp [Q1r,HX.out.1,HX.out.2,HP.out]⟩
        case measure=>simp; omega
    . have f0:¬ 65 <= N:=by omega
      have f1:¬ 97 <= N:=by omega
      have f2:¬ 48 <= N:=by omega
      have f3:(N == 95) = false:=by rw [beq_eq_false_iff_ne]; omega
      have HX:Hid (Q2i c = false /\ Q4m c = false):=by
       exact (by
        rcases Nat.lt_or_ge n 128 with h | h
        . rw [HL.out,HO.out,<- (HN1.out h).1]; simp; omega
        . have:=HN2.out h
          rw [HL.out,HO.out]; simp; omega:Q2i c = false /\ Q4m c = false)
      clear hcl hN
      by_cases h0:pos = 0
      . subst h0
        go_wp2;go_ret;exact ⟨Q1j (by rw [Q2d,<- HC.out,HB.out]; simp [Q1r,HX.out.1]),Ext.box _ _⟩
      . have h0':(((pos:Nat):Int) == 0) = false:=by rw [beq_eq_false_iff_ne]; omega
        have HP:=Lib.hid h0; clear h0;go_wp2;go_ret;exact ⟨Q1j (by rw [Q2d,<- HC.out,HB.out]; simp [Q1r,HX.out.1,HX.out.2]),Ext.box _ _⟩
    . have f0:¬ 65 <= N:=by omega
      have f1:¬ 97 <= N:=by omega
      have f2:48 <= N:=by omega
      have f3:¬ N <= 57:=by omega
      have f4:(N == 95) = false:=by rw [beq_eq_false_iff_ne]; omega
      have HX:Hid (Q2i c = false /\ Q4m c = false):=by
       exact (by
        rcases Nat.lt_or_ge n 128 with h | h
        . rw [HL.out,HO.out,<- (HN1.out h).1]; simp; omega
        . have:=HN2.out h
          rw [HL.out,HO.out]; simp; omega:Q2i c = false /\ Q4m c = false)
      clear hcl hN
      by_cases h0:pos = 0
      . subst h0
        go_wp2;go_ret;exact ⟨Q1j (by rw [Q2d,<- HC.out,HB.out]; simp [Q1r,HX.out.1]),Ext.box _ _⟩
      . have h0':(((pos:Nat):Int) == 0) = false:=by rw [beq_eq_false_iff_ne]; omega
        have HP:=Lib.hid h0; clear h0;go_wp2;go_ret;exact ⟨Q1j (by rw [Q2d,<- HC.out,HB.out]; simp [Q1r,HX.out.1,HX.out.2]),Ext.box _ _⟩
    . have f0:65 <= N:=by omega
      have f1:¬ N <= 90:=by omega
      have f2:¬ 97 <= N:=by omega
      have f3:48 <= N:=by omega
      have f4:¬ N <= 57:=by omega
      have f5:(N == 95) = false:=by rw [beq_eq_false_iff_ne]; omega
      have HX:Hid (Q2i c = false /\ Q4m c = false):=by
       exact (by
        rcases Nat.lt_or_ge n 128 with h | h
        . rw [HL.out,HO.out,<- (HN1.out h).1]; simp; omega
        . have:=HN2.out h
          rw [HL.out,HO.out]; simp; omega:Q2i c = false /\ Q4m c = false)
      clear hcl hN
      by_cases h0:pos = 0
      . subst h0
        go_wp2;go_ret;exact ⟨Q1j (by rw [Q2d,<- HC.out,HB.out]; simp [Q1r,HX.out.1]),Ext.box _ _⟩
      . have h0':(((pos:Nat):Int) == 0) = false:=by rw [beq_eq_false_iff_ne]; omega
        have HP:=Lib.hid h0; clear h0;go_wp2;go_ret;exact ⟨Q1j (by rw [Q2d,<- HC.out,HB.out]; simp [Q1r,HX.out.1,HX.out.2]),Ext.box _ _⟩
    . have f0:65 <= N:=by omega
      have f1:¬ N <= 90:=by omega
      have f2:97 <= N:=by omega
      have f3:¬ N <= 122:=by omega
      have f4:48 <= N:=by omega
      have f5:¬ N <= 57:=by omega
      have f6:(N == 95) = false:=by rw [beq_eq_false_iff_ne]; omega
      have HX:Hid (Q2i c = false /\ Q4m c = false):=by
       exact (by
        rcases Nat.lt_or_ge n 128 with h | h
        . rw [HL.out,HO.out,<- (HN1.out h).1]; simp; omega
        . have:=HN2.out h
          rw [HL.out,HO.out]; simp; omega:Q2i c = false /\ Q4m c = false)
      clear hcl hN
      by_cases h0:pos = 0
      . subst h0
        go_wp2;go_ret;exact ⟨Q1j (by rw [Q2d,<- HC.out,HB.out]; simp [Q1r,HX.out.1]),Ext.box _ _⟩
      . have h0':(((pos:Nat):Int) == 0) = false:=by rw [beq_eq_false_iff_ne]; omega
        have HP:=Lib.hid h0; clear h0;go_wp2;go_ret;exact ⟨Q1j (by rw [Q2d,<- HC.out,HB.out]; simp [Q1r,HX.out.1,HX.out.2]),Ext.box _ _⟩
  . have hnx:∀ ty,(Instr.next (.pointer (some ⟨w.heap.size,0,none⟩)) true ty).run Tryz.prog (w.iter s pos) = _:=fun ty=>run_next_end w s pos ty hp
    have HF:Hid (Q1r true s.data.toList = true):=by
     exact (by rw [<- HC.out,List.drop_eq_nil_of_le (by simpa using hp)]; rfl:Q1r true s.data.toList = true)
    have hsz:s.data.toList.length = s.size:=by simp
    have HS:=Lib.hid hsz;clear hsz hp
    by_cases h24:(s.size:Int) <= 24
    . have H24:=Lib.hid h24
      go_wp2
      . have he:s.toList = []:=by assumption
        go_ret;exact ⟨Q1j (by rw [Q2d,HF.out,Y6b he]; rfl),Ext.box _ _⟩
      . have he:¬ s.toList = []:=by assumption
        go_ret;exact ⟨Q1j (by have:=HS.out; have:=H24.out; rw [Q2d,HF.out,Bool.true_and,decide_eq_true (Y8r he),Bool.true_and]; rw [decide_eq_true (by omega:s.data.toList.length <= 24)]; simp [he]),Ext.box _ _⟩
    . have H24:=Lib.hid h24
      go_wp2
      . have he:s.toList = []:=by assumption
        go_ret;exact ⟨Q1j (by rw [Q2d,HF.out,Y6b he]; rfl),Ext.box _ _⟩
      . have he:¬ s.toList = []:=by assumption
        go_ret;exact ⟨Q1j (by have:=HS.out; have:=H24.out; rw [Q2d,HF.out,Bool.true_and,decide_eq_true (Y8r he),Bool.true_and]; exact (decide_eq_false (by omega)).symm),Ext.box _ _⟩
end Go.Proofs
namespace Go.Proofs
open Go.RowKit Go.Tw Go.Flow
theorem Y3w {n:Nat} (h:n < 62):wrap64 (2 ^ n) = ((2 ^ n:Nat):Int):=by
 have h1:(2:Nat) ^ n < 2 ^ 62:=Nat.pow_lt_pow_right (by omega) h
 have h2:((2 ^ n:Nat):Int) = 2 ^ n:=by simp
 rw [<- h2];obtain ⟨m,hm⟩:∃ m,2 ^ n = m:=⟨_,rfl⟩;rw [hm] at h1 ⊢;unfold wrap64;omega
theorem Z0p {a n:Nat} (ha:a < 2 ^ 62) (h:n < 62):bits .or .i64 (a:Int) (wrap64 (2 ^ n)) = ((a ||| 2 ^ n:Nat):Int):=by
 rw [Y3w h,J0e ha (Nat.pow_lt_pow_right (by omega) h)]
theorem X1h (w:World) (v:Value) (l:List Int) (hv:Q0e w v l) (hb:∀ x ∈ l,0 <= x /\ x < 62) :
    Calls Tryz.prog 87 #[v] w fun e w'=>e = .returned (.int .i64 (Q1n l:Nat)) /\ w = w':=by
 obtain ⟨A,cap,rfl,hl,hcap,hc⟩:=hv.opened;have HB:=Lib.hid hb;clear hv hb;go_enter Tryz.func87,Tryz.ntmps87;go_wp2
 go_loop [3,8] (fun o i=>∃ (k a:Nat),k <= l.length /\ i = .int .i64 k /\ o = .int .i64 a /\ a < 2 ^ 62 /\ X6a a (l.drop k) = Q1n l) (fun _ i=>l.length - (intOf i).toNat)
 case atStart=>exact ⟨0,0,Nat.zero_le _,rfl,rfl,by decide,rfl⟩
 case round =>
  obtain ⟨k,a,hk,rfl,rfl,ha,hr⟩:=hrel;have HR:=Lib.hid hr; clear hr
  by_cases hlt:k < l.length
  . obtain ⟨b,off,rfl,hcell⟩:=hc k hlt
    have hb:=HB.out (ix l k) (by rw [Q6t hlt]; exact List.getElem_mem hlt)
    obtain ⟨n,hn⟩:∃ n:Nat,ix l k = (n:Int):=⟨(ix l k).toNat,by omega⟩
    have HN:=Lib.hid hn;rw [hn] at hcell;have hn2:n < 62:=by omega
    have HA:=Lib.hid ha;clear hc hb hn ha;go_wp2;go_round
    case rel=>exact ⟨k + 1,a ||| 2 ^ n,by omega,by go_num,by rw [Z0p HA.out hn2],Nat.or_lt_two_pow HA.out (Nat.pow_lt_pow_right (by omega) hn2),by rw [<- HR.out,Q3k hlt,X0r,HN.out]; rfl⟩
    case measure=>simp [intOf]; omega
  . clear hc
    go_wp2;go_ret;exact ⟨Q0y (by rw [<- HR.out,List.drop_eq_nil_of_le (by omega)]; rfl),rfl⟩
def Y9a (x y:Int):Int:=if x < y then -1 else if y < x then 1 else 0
def cmpL:List Int -> List Int -> Int
 | [],[]=>0
 | [],_ :: _=>-1
 | _ :: _,[]=>1
 | x :: l,y :: m=>if x = y then cmpL l m else Y9a x y
def Q5a (a b:List Int):Int:=if a.length = b.length then cmpL a b else (a.length:Int) - b.length
theorem Z1d {a b:List Int} {k:Nat} (ha:k < a.length) (hb:k < b.length):cmpL (a.drop k) (b.drop k) = if ix a k = ix b k then cmpL (a.drop (k + 1)) (b.drop (k + 1)) else Y9a (ix a k) (ix b k):=by
 rw [Q3k ha,Q3k hb]; rfl
theorem X8k (w:World) (x y:Int) :
    Calls Tryz.prog 168 #[.int .i64 x,.int .i64 y] w fun e w'=>e = .returned (.int .i64 (Y9a x y)) /\ w = w':=by
 unfold Y9a
 by_cases h1:x < y
 . rw [if_pos h1]
   go_enter Tryz.func168,Tryz.ntmps168;go_wp2;go_ret;exact ⟨rfl,rfl⟩
 . by_cases h2:y < x
   . rw [if_neg h1,if_pos h2]
     go_enter Tryz.func168,Tryz.ntmps168;go_wp2;go_ret;exact ⟨rfl,rfl⟩
   . rw [if_neg h1,if_neg h2]
     go_enter Tryz.func168,Tryz.ntmps168;go_wp2;go_ret;exact ⟨rfl,rfl⟩
theorem Y4s (w:World) (u v:Value) (a b:List Int) (hu:Q0e w u a) (hv:Q0e w v b) (hab:a.length = b.length) :
    Calls Tryz.prog 147 #[u,v] w fun e w'=>e = .returned (.int .i64 (cmpL a b)) /\ w = w':=by
 obtain ⟨A,ca,rfl,hla,hcapa,hca⟩:=hu.opened;obtain ⟨B,cb,rfl,hlb,hcapb,hcb⟩:=hv.opened;clear hu hv;obtain ⟨m,hma⟩:∃ m,a.length = m:=⟨_,rfl⟩;have hmb:b.length = m:=by omega
 rw [hma] at hla hcapa hca ⊢;rw [hmb] at hlb hcapb hcb ⊢;have HMA:=Lib.hid hma;have HMB:=Lib.hid hmb;clear hab hma hmb;go_enter Tryz.func147,Tryz.ntmps147;go_wp2
 go_loop [11] (fun i=>∃ k:Nat,k <= m /\ i = .int .i64 k /\ cmpL (a.drop k) (b.drop k) = cmpL a b) (fun i=>m - (intOf i).toNat)
 case atStart=>exact ⟨0,Nat.zero_le _,rfl,rfl⟩
 case round =>
  obtain ⟨k,hk,rfl,hr⟩:=hrel;have HR:=Lib.hid hr; clear hr
  by_cases hlt:k < m
  . skip
    obtain ⟨b1,off1,rfl,hc1⟩:=hca k hlt;obtain ⟨b2,off2,rfl,hc2⟩:=hcb k hlt;clear hca hcb;have HS:=Lib.hid (Z1d (a:=a) (b:=b) (k:=k) (by rw [HMA.out]; exact hlt) (by rw [HMB.out]; exact hlt))
    obtain ⟨x,hx⟩:∃ x,ix a k = x:=⟨_,rfl⟩;obtain ⟨y,hy⟩:∃ y,ix b k = y:=⟨_,rfl⟩;rw [hx,hy] at HS;rw [hx] at hc1;rw [hy] at hc2;clear hx hy
    by_cases he:x = y
    . have hz:(Y9a x y != 0) = false:=by unfold Y9a; subst he; simp
      have HE:=Lib.hid he; clear he;go_wp2_with (go_at_call 168; refine (X8k _ _ _).mono ?_; rintro e w' ⟨rfl,rfl⟩);go_round
      case rel=>exact ⟨k + 1,by omega,by go_num,by rw [<- HR.out,HS.out,if_pos HE.out]⟩
      case measure=>simp [intOf]; omega
    . have hz:(Y9a x y != 0) = true:=by
       unfold Y9a
       rcases Int.lt_or_gt_of_ne he with h | h
       . rw [if_pos h]; rfl
       . rw [if_neg (by omega),if_pos h]; rfl
      have HE:=Lib.hid he; clear he;go_wp2_with (go_at_call 168; refine (X8k _ _ _).mono ?_; rintro e w' ⟨rfl,rfl⟩);go_ret;exact ⟨Q0y (by rw [<- HR.out,HS.out,if_neg HE.out]),rfl⟩
  . clear hca hcb
    go_wp2;go_ret;exact ⟨Q0y (by rw [<- HR.out,List.drop_eq_nil_of_le (by rw [HMA.out]; omega),List.drop_eq_nil_of_le (by rw [HMB.out]; omega)]; rfl),rfl⟩
theorem Y3a (w:World) (u v:Value) (a b:List Int) (hu:Q0e w u a) (hv:Q0e w v b) :
    Calls Tryz.prog 122 #[u,v] w fun e w'=>e = .returned (.int .i64 (Q5a a b)) /\ w = w':=by
 have HU:=Lib.hid hu;have HV:=Lib.hid hv;obtain ⟨A,ca,rfl,hla,hcapa,hca⟩:=hu.opened;obtain ⟨B,cb,rfl,hlb,hcapb,hcb⟩:=hv.opened;clear hu hv hca hcb;unfold Q5a
 by_cases hab:a.length = b.length
 . rw [if_pos hab]
   have HAB:=Lib.hid hab;have hne:(((a.length:Nat):Int) != ((b.length:Nat):Int)) = false:=by simp [hab]
   clear hab;go_enter Tryz.func122,Tryz.ntmps122;go_wp2_with (go_at_call 147; refine (Y4s _ _ _ a b HU.out HV.out HAB.out).mono ?_; rintro e w' ⟨rfl,rfl⟩);go_ret;exact ⟨rfl,rfl⟩
 . rw [if_neg hab]
   have hne:(((a.length:Nat):Int) != ((b.length:Nat):Int)) = true:=by simp; omega
   clear hab;go_enter Tryz.func122,Tryz.ntmps122;go_wp2;go_ret;exact ⟨rfl,rfl⟩
end Go.Proofs
namespace Go.Tw
theorem Q9h (A B:Nat):A &&& B = (A % 256 &&& B % 256) + 256 * (A / 256 &&& B / 256):=by
 have h:=Nat.div_add_mod (A &&& B) 256;rw [show (256:Nat) = 2 ^ 8 from rfl,Nat.and_mod_two_pow,Nat.and_div_two_pow] at h
 rw [show (256:Nat) = 2 ^ 8 from rfl]
 omega
def Q1l:List Nat -> Nat
 | []=>0
 | y :: l=>y + 256 * Q1l l
def Y0h (m:Nat):Nat -> Nat
 | 0=>0
 | k + 1=>m + 256 * Y0h m k
def f1 (y:Nat):Nat:=(y / 2 &&& 85) + (y &&& 85)
def f2 (y:Nat):Nat:=(y / 4 &&& 51) + (y &&& 51)
def f3 (y:Nat):Nat:=(y / 16 + y) &&& 15
theorem X3n (A m:Nat):A &&& m <= m:=Nat.and_le_right
theorem step1:∀ l:List Nat,(∀ y ∈ l,y < 256) -> (Q1l l / 2 &&& Y0h 85 l.length) + (Q1l l &&& Y0h 85 l.length) = Q1l (l.map f1)
 | [],_=>rfl
 | y :: l,h=>by
   have hy:=h y (List.mem_cons_self ..);have ih:=step1 l (fun z hz=>h z (List.mem_cons_of_mem _ hz));rw [List.length_cons,Y0h,Q1l,List.map_cons,Q1l,<- ih];rw [Q9h ((y + 256 * Q1l l) / 2),Q9h (y + 256 * Q1l l)];rw [show (y + 256 * Q1l l) / 2 % 256 = y / 2 + 128 * (Q1l l % 2) from by omega,show (y + 256 * Q1l l) / 2 / 256 = Q1l l / 2 from by omega,show (85 + 256 * Y0h 85 l.length) % 256 = 85 from by omega,show (85 + 256 * Y0h 85 l.length) / 256 = Y0h 85 l.length from by omega,show (y + 256 * Q1l l) % 256 = y from by omega,show (y + 256 * Q1l l) / 256 = Q1l l from by omega]
   have e:∀ y,y < 256 -> ∀ c,c < 2 -> (y / 2 + 128 * c) &&& 85 = y / 2 &&& 85:=by decide +kernel
   rw [e y hy _ (by omega),f1]
   omega
theorem step2:∀ l:List Nat,(∀ y ∈ l,y < 256) -> (Q1l l / 4 &&& Y0h 51 l.length) + (Q1l l &&& Y0h 51 l.length) = Q1l (l.map f2)
 | [],_=>rfl
 | y :: l,h=>by
   have hy:=h y (List.mem_cons_self ..);have ih:=step2 l (fun z hz=>h z (List.mem_cons_of_mem _ hz));rw [List.length_cons,Y0h,Q1l,List.map_cons,Q1l,<- ih];rw [Q9h ((y + 256 * Q1l l) / 4),Q9h (y + 256 * Q1l l)];rw [show (y + 256 * Q1l l) / 4 % 256 = y / 4 + 64 * (Q1l l % 4) from by omega,show (y + 256 * Q1l l) / 4 / 256 = Q1l l / 4 from by omega,show (51 + 256 * Y0h 51 l.length) % 256 = 51 from by omega,show (51 + 256 * Y0h 51 l.length) / 256 = Y0h 51 l.length from by omega,show (y + 256 * Q1l l) % 256 = y from by omega,show (y + 256 * Q1l l) / 256 = Q1l l from by omega]
   have e:∀ y,y < 256 -> ∀ c,c < 4 -> (y / 4 + 64 * c) &&& 51 = y / 4 &&& 51:=by decide +kernel
   rw [e y hy _ (by omega),f2]
   omega
theorem Z7b:∀ l:List Nat,(∀ y ∈ l,y % 16 <= 4) -> Q1l l % 16 <= 4
 | [],_=>by simp [Q1l]
 | y :: l,h=>by
   have:=h y (List.mem_cons_self ..);rw [Q1l]; omega
theorem step3:∀ l:List Nat,(∀ y ∈ l,y % 16 <= 4 /\ y / 16 <= 4) -> (Q1l l / 16 + Q1l l) &&& Y0h 15 l.length = Q1l (l.map f3)
 | [],_=>rfl
 | y :: l,h=>by
   have hy:=h y (List.mem_cons_self ..);have ih:=step3 l (fun z hz=>h z (List.mem_cons_of_mem _ hz));have hn:=Z7b l (fun z hz=>(h z (List.mem_cons_of_mem _ hz)).1);rw [List.length_cons,Y0h,Q1l,List.map_cons,Q1l,<- ih];rw [Q9h ((y + 256 * Q1l l) / 16 + (y + 256 * Q1l l))];rw [show ((y + 256 * Q1l l) / 16 + (y + 256 * Q1l l)) % 256 = y / 16 + y + 16 * (Q1l l % 16) from by omega,show ((y + 256 * Q1l l) / 16 + (y + 256 * Q1l l)) / 256 = Q1l l / 16 + Q1l l from by omega,show (15 + 256 * Y0h 15 l.length) % 256 = 15 from by omega,show (15 + 256 * Y0h 15 l.length) / 256 = Y0h 15 l.length from by omega]
   have e:∀ y,y < 69 -> ∀ c,c < 5 -> (y / 16 + y + 16 * c) &&& 15 = (y / 16 + y) &&& 15:=by decide +kernel
   rw [e y (by omega) _ (by omega),f3]
def X0e (n k:Nat):Nat:=(List.range k).countP fun i=>n.testBit i
theorem Y8h (n k:Nat):X0e n (8 + k) = X0e (n % 256) 8 + X0e (n / 256) k:=by
 unfold X0e;rw [List.range_add,List.countP_append,List.countP_map]
 congr 1
 . refine List.countP_congr fun i hi=>?_
   rw [show (256:Nat) = 2 ^ 8 from rfl,Nat.testBit_mod_two_pow,decide_eq_true (List.mem_range.1 hi),Bool.true_and]
 . refine List.countP_congr fun i _=>?_
   rw [show (256:Nat) = 2 ^ 8 from rfl,Nat.testBit_div_two_pow]
   show n.testBit (8 + i) = true ↔ _;rw [Nat.add_comm]
theorem X4c:∀ y,y < 256 -> f3 (f2 (f1 y)) = X0e y 8 /\ f1 y < 256 /\ f2 (f1 y) % 16 <= 4 /\ f2 (f1 y) / 16 <= 4 /\ X0e y 8 <= 8:=by decide +kernel
def byteAt (n j:Nat):Nat:=n / 256 ^ j % 256
theorem Z2m {n:Nat} (h:n < 2 ^ 64):Q1l [byteAt n 0,byteAt n 1,byteAt n 2,byteAt n 3,byteAt n 4,byteAt n 5,byteAt n 6,byteAt n 7] = n:=by
 simp only [Q1l,byteAt];omega
theorem Z9i (n:Nat):X0e n 64 = X0e (byteAt n 0) 8 + X0e (byteAt n 1) 8 + X0e (byteAt n 2) 8 + X0e (byteAt n 3) 8 + X0e (byteAt n 4) 8 + X0e (byteAt n 5) 8 + X0e (byteAt n 6) 8 + X0e (byteAt n 7) 8:=by
 rw [show (64:Nat) = 8 + (8 + (8 + (8 + (8 + (8 + (8 + (8 + 0))))))) from rfl]
 simp only [Y8h];have e:X0e (n / 256 / 256 / 256 / 256 / 256 / 256 / 256 / 256) 0 = 0:=rfl;rw [e];simp only [byteAt,Nat.div_div_eq_div_mul];simp only [Nat.reducePow,Nat.reduceMul,Nat.div_one];omega
def X8y (x:Nat):Nat:=(x / 2 &&& 6148914691236517205) + (x &&& 6148914691236517205)
def Y1b (x:Nat):Nat:=(x / 4 &&& 3689348814741910323) + (x &&& 3689348814741910323)
def Y8m (x:Nat):Nat:=(x / 16 + x) &&& 1085102592571150095
theorem Y6f {n:Nat} (h:n < 2 ^ 64):∃ c0 c1 c2 c3 c4 c5 c6 c7:Nat,Y8m (Y1b (X8y n)) = Q1l [c0,c1,c2,c3,c4,c5,c6,c7] /\ c0 <= 8 /\ c1 <= 8 /\ c2 <= 8 /\ c3 <= 8 /\ c4 <= 8 /\ c5 <= 8 /\ c6 <= 8 /\ c7 <= 8 /\ X0e n 64 = c0 + c1 + c2 + c3 + c4 + c5 + c6 + c7:=by
 obtain ⟨l,hl⟩:∃ l,[byteAt n 0,byteAt n 1,byteAt n 2,byteAt n 3,byteAt n 4,byteAt n 5,byteAt n 6,byteAt n 7] = l:=⟨_,rfl⟩;have hb:∀ y ∈ l,y < 256:=by
  subst hl;intro y hy;simp only [List.mem_cons,List.not_mem_nil,or_false] at hy
  rcases hy with rfl | rfl | rfl | rfl | rfl | rfl | rfl | rfl <;> exact Nat.mod_lt _ (by decide)
 have hlen:l.length = 8:=by subst hl; rfl
 have e1:X8y n = Q1l (l.map f1):=by
  rw [<- step1 l hb,hlen,<- Z2m h,hl]; rfl
 have hb1:∀ y ∈ l.map f1,y < 256:=fun y hy=>by obtain ⟨z,hz,rfl⟩:=List.mem_map.1 hy; exact (X4c z (hb z hz)).2.1
 have e2:Y1b (X8y n) = Q1l ((l.map f1).map f2):=by
  rw [e1,<- step2 _ hb1,List.length_map,hlen]; rfl
 have hb2:∀ y ∈ (l.map f1).map f2,y % 16 <= 4 /\ y / 16 <= 4:=fun y hy=>by
  obtain ⟨u,hu,rfl⟩:=List.mem_map.1 hy;obtain ⟨z,hz,rfl⟩:=List.mem_map.1 hu;exact ⟨(X4c z (hb z hz)).2.2.1,(X4c z (hb z hz)).2.2.2.1⟩
 have e3:Y8m (Y1b (X8y n)) = Q1l (((l.map f1).map f2).map f3):=by
  rw [e2,<- step3 _ hb2,List.length_map,List.length_map,hlen]; rfl
 have hp:=fun j=>X4c (byteAt n j) (Nat.mod_lt _ (by decide))
 refine ⟨X0e (byteAt n 0) 8,X0e (byteAt n 1) 8,X0e (byteAt n 2) 8,X0e (byteAt n 3) 8,X0e (byteAt n 4) 8,X0e (byteAt n 5) 8,X0e (byteAt n 6) 8,X0e (byteAt n 7) 8,?_,
  (hp 0).2.2.2.2,(hp 1).2.2.2.2,(hp 2).2.2.2.2,(hp 3).2.2.2.2,(hp 4).2.2.2.2,(hp 5).2.2.2.2,(hp 6).2.2.2.2,(hp 7).2.2.2.2,Z9i n⟩
 rw [e3,<- hl];simp only [List.map_cons,List.map_nil,(hp _).1]
theorem Z0h {x r q m:Nat} (hm:0 < m) (h:x = r + m * q) (hr:r < m):x / m = q:=by
 rw [h,Nat.add_mul_div_left _ _ hm,Nat.div_eq_of_lt hr,Nat.zero_add]
theorem Z9n {x r q m:Nat} (h:x = r + m * q) (hr:r < m):x % m = r:=by
 rw [h,Nat.add_mul_mod_self_left,Nat.mod_eq_of_lt hr]
theorem Z3e {c0 c1 c2 c3 c4 c5 c6 c7 x a b c:Nat} (hx:x = Q1l [c0,c1,c2,c3,c4,c5,c6,c7]) (h0:c0 <= 8) (h1:c1 <= 8) (h2:c2 <= 8) (h3:c3 <= 8) (h4:c4 <= 8) (h5:c5 <= 8) (h6:c6 <= 8) (h7:c7 <= 8)
    (ea:x + x / 256 = a) (eb:a + a / 65536 = b) (ec:b + b / 4294967296 = c) :
    x <= 600000000000000000 /\ a <= 605000000000000000 /\ b <= 606000000000000000 /\ c <= 607000000000000000 /\ c % 128 = c0 + c1 + c2 + c3 + c4 + c5 + c6 + c7:=by
 simp only [Q1l] at hx;have hx':x = c0 + 256 * (c1 + 256 * c2 + 65536 * c3 + 16777216 * c4 + 4294967296 * c5 + 1099511627776 * c6 + 281474976710656 * c7):=by clear ea eb ec; rw [hx]; omega
 clear hx;rw [Z0h (by decide) hx' (by clear hx' ea eb ec; omega)] at ea
 have ha:a = ((c0 + c1) + 256 * (c1 + c2)) + 65536 * ((c2 + c3) + 256 * (c3 + c4) + 65536 * (c4 + c5) + 16777216 * (c5 + c6) + 4294967296 * (c6 + c7) + 1099511627776 * c7):=by rw [<- ea,hx']; clear hx' ea eb ec; omega
 clear ea;rw [Z0h (by decide) ha (by clear ha hx' eb ec; omega)] at eb
 have hb:b = ((c0 + c1 + c2 + c3) + 256 * (c1 + c2 + c3 + c4) + 65536 * (c2 + c3 + c4 + c5) + 16777216 * (c3 + c4 + c5 + c6)) + 4294967296 * ((c4 + c5 + c6 + c7) + 256 * (c5 + c6 + c7) + 65536 * (c6 + c7) + 16777216 * c7):=by rw [<- eb,ha]; clear ha hx' eb ec; omega
 clear eb;rw [Z0h (by decide) hb (by clear hb ha hx' ec; omega)] at ec
 have hc:c = (c0 + c1 + c2 + c3 + c4 + c5 + c6 + c7) + 128 * (2 * ((c1 + c2 + c3 + c4 + c5 + c6 + c7) + 256 * (c2 + c3 + c4 + c5 + c6 + c7) + 65536 * (c3 + c4 + c5 + c6 + c7) + 16777216 * (c4 + c5 + c6 + c7) + 4294967296 * (c5 + c6 + c7) + 1099511627776 * (c6 + c7) + 281474976710656 * c7)):=by rw [<- ec,hb]; clear hb ha hx' ec; omega
 clear ec;refine ⟨by rw [hx']; clear hx' ha hb hc; omega,by rw [ha]; clear hx' ha hb hc; omega,by rw [hb]; clear hx' ha hb hc; omega,by rw [hc]; clear hx' ha hb hc; omega,Z9n hc (by clear hx' ha hb hc; omega)⟩
theorem Y6n {n x a b c:Nat} (h:n < 2 ^ 64) (ex:Y8m (Y1b (X8y n)) = x) (ea:x + x / 256 = a) (eb:a + a / 65536 = b) (ec:b + b / 4294967296 = c) :
    x <= 600000000000000000 /\ a <= 605000000000000000 /\ b <= 606000000000000000 /\ c <= 607000000000000000 /\ c % 128 = X0e n 64:=by
 obtain ⟨c0,c1,c2,c3,c4,c5,c6,c7,hx,h0,h1,h2,h3,h4,h5,h6,h7,hp⟩:=Y6f h;rw [ex] at hx;rw [hp];exact Z3e hx h0 h1 h2 h3 h4 h5 h6 h7 ea eb ec
end Go.Tw
namespace Go.Proofs
open Go.RowKit Go.Tw Go.Flow
theorem Z8c (n:Int) (h0:0 <= n) (h1:n < 2 ^ 64):IntKind.u64.wrap n = n:=by
 simp [IntKind.wrap,IntKind.bits,IntKind.signed]; omega
theorem X5y {n:Nat} (h:n < 18446744073709551616):IntKind.u64.wrap (n:Int) = (n:Int):=Z8c _ (by omega) (by omega)
theorem Z7w {a b:Nat} (ha:a < 2 ^ 64) (hb:b < 2 ^ 64):bits .and .u64 (a:Int) (b:Int) = ((a &&& b:Nat):Int):=(bits_nat .u64 64 (by decide) Z8c a b ha hb).1
theorem u1 {n:Nat} (h:n < 2 ^ 64):IntKind.u64.wrap (bits .and .u64 ((n:Int) / 2) 6148914691236517205 + bits .and .u64 (n:Int) 6148914691236517205) = (X8y n:Int):=by
 have e1:bits .and .u64 ((n:Int) / 2) 6148914691236517205 = ((n / 2 &&& 6148914691236517205:Nat):Int):=Z7w (a:=n / 2) (b:=6148914691236517205) (by omega) (by decide)
 have e2:bits .and .u64 (n:Int) 6148914691236517205 = ((n &&& 6148914691236517205:Nat):Int):=Z7w (a:=n) (b:=6148914691236517205) h (by decide)
 have b1:=X3n (n / 2) 6148914691236517205;have b2:=X3n n 6148914691236517205;rw [e1,e2,<- Int.natCast_add];exact X5y (by omega)
theorem u2 {n:Nat} (h:n < 2 ^ 64):IntKind.u64.wrap (bits .and .u64 ((n:Int) / 4) 3689348814741910323 + bits .and .u64 (n:Int) 3689348814741910323) = (Y1b n:Int):=by
 have e1:bits .and .u64 ((n:Int) / 4) 3689348814741910323 = ((n / 4 &&& 3689348814741910323:Nat):Int):=Z7w (a:=n / 4) (b:=3689348814741910323) (by omega) (by decide)
 have e2:bits .and .u64 (n:Int) 3689348814741910323 = ((n &&& 3689348814741910323:Nat):Int):=Z7w (a:=n) (b:=3689348814741910323) h (by decide)
 have b1:=X3n (n / 4) 3689348814741910323;have b2:=X3n n 3689348814741910323;rw [e1,e2,<- Int.natCast_add];exact X5y (by omega)
theorem Z2r (n:Nat):X8y n < 2 ^ 64:=by
 have b1:=X3n (n / 2) 6148914691236517205;have b2:=X3n n 6148914691236517205;unfold X8y; omega
theorem Z2l (n:Nat):Y1b n <= 7378697629483820646:=by
 have b1:=X3n (n / 4) 3689348814741910323;have b2:=X3n n 3689348814741910323;unfold Y1b; omega
theorem u3 {n:Nat} (h:n <= 7378697629483820646):bits .and .u64 (IntKind.u64.wrap ((n:Int) / 16 + (n:Int))) 1085102592571150095 = (Y8m n:Int):=by
 have e1:IntKind.u64.wrap ((n:Int) / 16 + (n:Int)) = ((n / 16 + n:Nat):Int):=X5y (n:=n / 16 + n) (by omega)
 rw [e1];exact Z7w (a:=n / 16 + n) (b:=1085102592571150095) (by omega) (by decide)
theorem u4 {n:Nat} (h:n < 2 ^ 63):IntKind.u64.wrap ((n:Int) + (n:Int) / 256) = ((n + n / 256:Nat):Int):=X5y (n:=n + n / 256) (by omega)
theorem u5 {n:Nat} (h:n < 2 ^ 63):IntKind.u64.wrap ((n:Int) + (n:Int) / 65536) = ((n + n / 65536:Nat):Int):=X5y (n:=n + n / 65536) (by omega)
theorem u6 {n:Nat} (h:n < 2 ^ 63):IntKind.u64.wrap ((n:Int) + (n:Int) / 4294967296) = ((n + n / 4294967296:Nat):Int):=X5y (n:=n + n / 4294967296) (by omega)
theorem u7 {n:Nat} (h:n < 2 ^ 62):bits .and .i64 (wrap64 (n:Int)) 127 = ((n % 128:Nat):Int):=by
 have e:wrap64 (n:Int) = (n:Int):=by unfold wrap64; omega
 have e2:bits .and .i64 (n:Int) 127 = ((n &&& 127:Nat):Int):=Z2p (a:=n) (b:=127) h (by decide)
 rw [e,e2,show (127:Nat) = 2 ^ 7 - 1 from rfl,Nat.and_two_pow_sub_one_eq_mod]
theorem Y6g (w:World) (n:Nat) (hn:n < 2 ^ 64) :
    Calls Tryz.prog 155 #[.int .u64 n] w fun e w'=>e = .returned (.int .i64 (X0e n 64:Nat)) /\ w = w':=by
 have HN:=Lib.hid hn;clear hn;go_enter Tryz.func155,Tryz.ntmps155;go_wp2;go_ret;refine ⟨Q0y ?_,rfl⟩;obtain ⟨x,hx⟩:∃ x,Y8m (Y1b (X8y n)) = x:=⟨_,rfl⟩;obtain ⟨a,ha⟩:∃ a,x + x / 256 = a:=⟨_,rfl⟩;obtain ⟨b,hb⟩:∃ b,a + a / 65536 = b:=⟨_,rfl⟩;obtain ⟨c,hc⟩:∃ c,b + b / 4294967296 = c:=⟨_,rfl⟩;obtain ⟨bx,ba,bb,bc,e⟩:=Y6n HN.out hx ha hb hc;rw [u1 HN.out,u2 (Z2r n),u3 (Z2l _),hx,u4 (by omega),ha,u5 (by omega),hb,u6 (by omega),hc,<- e]
 exact u7 (by omega)
theorem Z2y (w:World) (n:Nat) (hn:n < 2 ^ 64) :
    Calls Tryz.prog 136 #[.int .u64 n] w fun e w'=>e = .returned (.int .i64 (X0e n 64:Nat)) /\ w = w':=by
 have HN:=Lib.hid hn;clear hn;go_enter Tryz.func136,Tryz.ntmps136;go_wp2_with (go_at_call 155; refine (Y6g _ _ HN.out).mono ?_; rintro e w' ⟨rfl,rfl⟩);go_ret;exact ⟨rfl,rfl⟩
end Go.Proofs
namespace Go.Tw
theorem Q1h {l:List Int}:Q0g l = 0 ↔ ∀ x ∈ l,x = 0:=by
 induction l with
 | nil=>simp [Q0g]
 | cons y l ih =>
   unfold Q0g
   by_cases h:y = 0
   . simp [h,ih]
   . simp [h]
structure Fit (t:Tree):Prop where
 nb:t.basics.length <= 1000
 nc:t.causes.length <= 1000
 ng:t.gates.length <= 1000
 inp:∀ k,k < t.gates.length -> ∀ x ∈ Q0m t.gates k,0 <= x /\ x < (t.basics.length:Int) + k
theorem Q2x {l:List Int} {n:Int} (h:Q1p l n = 0):(∀ x ∈ l,0 <= x /\ x < n) /\ X7e l = true:=by
 unfold Q1p at h
 split at h
 . cases h
 . split at h
   . rename_i h1 h2
     refine ⟨fun x hx=>?_,h2⟩;unfold Z1s at h1;rw [Bool.not_eq_true,List.any_eq_false] at h1;have:=h1 x hx;simp only [decide_eq_true_eq] at this;omega
   . cases h
structure Valid (t:Tree):Prop where
 nb:1 <= t.basics.length
 ng:1 <= t.gates.length
 size:t.size <= 12
 ng':t.gates.length <= 32
 event:∀ i,i < t.size -> t.Q1f i = 0
 gate:∀ i,i < t.gates.length -> t.Q1z i = 0
theorem Valid.of {t:Tree} (h:t.err = 0):Valid t:=by
 unfold Tree.err at h
 split at h
 . cases h
 . split at h
   . cases h
   . rename_i h1 h2
     rw [Q1h] at h;refine ⟨by omega,by omega,by omega,by omega,fun i hi=>h _ ?_,fun i hi=>h _ ?_⟩
     . exact List.mem_append_left _ (List.mem_map.2 ⟨i,List.mem_range.2 hi,rfl⟩)
     . exact List.mem_append_right _ (List.mem_map.2 ⟨i,List.mem_range.2 hi,rfl⟩)
theorem Valid.inputs {t:Tree} (h:Valid t) {k:Nat} (hk:k < t.gates.length):Q2r (Q0m t.gates k) ((t.basics.length:Int) + k) = 0:=by
 have:=h.gate k hk;unfold Tree.Q1z Q8n at this;rw [Q1h] at this;exact this _ (by simp)
theorem Q6e {l:List Int} {n:Int} (h:Q2r l n = 0):l ≠ [] /\ Q1p l n = 0:=by
 unfold Q2r at h
 split at h
 . cases h
 . exact ⟨‹_›,h⟩
theorem Valid.fit {t:Tree} (h:Valid t):Fit t:=by
 have:=h.size;unfold Tree.size at this;have:=h.ng';exact ⟨by omega,by omega,by omega,fun k hk=>(Q2x (Q6e (h.inputs hk)).2).1⟩
theorem Valid.chance {t:Tree} (h:Valid t) {i:Nat} (hi:i < t.size):0 <= t.Q1g i /\ t.Q1g i <= 16:=by
 have:=h.event i hi;unfold Tree.Q1f at this;rw [Q1h] at this;have:=this (Q0k (t.Q1g i) 0 16) (by simp)
 unfold Q0k at this
 split at this
 . cases this
 . omega
end Go.Tw
namespace Go.Tw
open Go.RowKit
theorem Z4w {x:Int} {l:List Int} (h:X7e (x :: l) = true):∀ y ∈ l,x < y:=by
 induction l generalizing x with
 | nil=>intro y hy; cases hy
 | cons z l ih =>
   simp only [X7e,Bool.and_eq_true,decide_eq_true_eq] at h;intro y hy
   rcases List.mem_cons.1 hy with rfl | hy
   . exact h.1
   . exact Int.lt_trans h.1 (ih h.2 y hy)
theorem Z4t {x:Int} {l:List Int} (h:X7e (x :: l) = true):X7e l = true:=by
 cases l with
 | nil=>rfl
 | cons z l=>simp only [X7e,Bool.and_eq_true] at h; exact h.2
theorem count_one (a:Nat) (p:Nat -> Bool):∀ k,(List.range k).countP (fun i=>p i && decide (i = a)) = if a < k then (if p a then 1 else 0) else 0
 | 0=>rfl
 | k + 1=>by
   rw [List.range_succ,List.countP_append,count_one a p k,List.countP_singleton]
   by_cases h:a < k
   . have h2:¬ k = a:=by omega
     have h3:a < k + 1:=by omega
     simp [h,h2,h3]
   . by_cases h2:k = a
     . subst h2; simp
     . have h3:¬ a < k + 1:=by omega
       simp [h,h2,h3]
theorem Y4b (l:List Nat) (p q:Nat -> Bool) (h:∀ i ∈ l,¬ (p i = true /\ q i = true)):l.countP (fun i=>p i || q i) = l.countP p + l.countP q:=by
 induction l with
 | nil=>rfl
 | cons x l ih =>
   have h0:=h x (List.mem_cons_self ..);rw [List.countP_cons,List.countP_cons,List.countP_cons,ih (fun i hi=>h i (List.mem_cons_of_mem _ hi))];cases hp:p x <;> cases hq:q x <;> simp_all <;> omega
theorem X1j (k:Nat) (p:Nat -> Bool):∀ l:List Int,X7e l = true -> (∀ x ∈ l,0 <= x /\ x < (k:Int)) -> (List.range k).countP (fun i=>p i && has l i) = l.countP fun x=>p x.toNat
 | [],_,_=>by simp [has]
 | x :: l,ha,hb=>by
   have h0:=hb x (List.mem_cons_self ..);have e:(List.range k).countP (fun i=>p i && has (x :: l) i) = (List.range k).countP (fun i=>(p i && decide (i = x.toNat)) || (p i && has l i)):=by
    refine List.countP_congr fun i _=>?_;rw [X4b];have:(x == (i:Int)) = decide (i = x.toNat):=by
     by_cases h:x = (i:Int)
     . subst h; simp
     . rw [beq_false_of_ne h,decide_eq_false (by omega)]
    rw [this];cases p i <;> simp
   rw [e,Y4b,count_one,if_pos (by omega),X1j k p l (Z4t ha) (fun y hy=>hb y (List.mem_cons_of_mem _ hy)),List.countP_cons]
   . omega
   . rintro i _ ⟨h1,h2⟩
     simp only [Bool.and_eq_true,decide_eq_true_eq] at h1 h2;have:=Z4w ha (i:Int) (X8z.1 h2.2);omega
theorem Y4p {out:List Bool} {l:List Int} (ha:X7e l = true) (hb:∀ x ∈ l,0 <= x /\ x < 64):X0e (Q4o out &&& Q1n l) 64 = failing out l:=by
 unfold X0e failing;rw [<- X1j 64 (fun i=>bx out i) l ha hb];refine List.countP_congr fun i _=>?_;rw [Nat.testBit_and,Q4q,X2f (fun x hx=>(hb x hx).1)]
namespace Tree
def maskAt (t:Tree) (k:Nat):Nat:=if k < t.basics.length then 2 ^ k else Q1n (Q0f t.causes (k - t.basics.length))
def masks (t:Tree):List Int:=(List.range t.size).map fun k=>(t.maskAt k:Int)
def gt (t:Tree) (k:Nat):Nat × Int:=(Q1n (Q0m t.gates k),Q6o (Q2f t.gates k) (Q3e t.gates k) (Q0m t.gates k).length)
def gts (t:Tree):List (Nat × Int):=(List.range t.gates.length).map t.gt
def Y2v (t:Tree) (s:Nat):Nat -> Nat
 | 0=>0
 | k + 1=>if s.testBit k then t.Y2v s k ||| t.maskAt k else t.Y2v s k
end Tree
theorem Q2g (t:Tree):t.masks.length = t.size:=by simp [Tree.masks]
theorem X4m (t:Tree):t.gts.length = t.gates.length:=by simp [Tree.gts]
theorem Z4a {t:Tree} {k:Nat} (h:k < t.size):ix t.masks k = (t.maskAt k:Int):=by
 rw [Q6t (by rw [Q2g]; exact h)]; simp [Tree.masks]
theorem Valid.members {t:Tree} (h:Valid t) {k:Nat} (hk:k < t.causes.length):∀ x ∈ Q0f t.causes k,0 <= x /\ x < (t.basics.length:Int):=by
 have h1:=h.event (t.basics.length + k) (by unfold Tree.size; omega)
 unfold Tree.Q1f at h1;rw [Q1h] at h1;have h2:=h1 (if t.basics.length + k < t.basics.length then 0 else Q2r (Q0f t.causes (t.basics.length + k - t.basics.length)) t.basics.length) (by simp)
 rw [if_neg (by omega),Nat.add_sub_cancel_left] at h2
 exact (Q2x (Q6e h2).2).1
theorem Valid.Y2r {t:Tree} (h:Valid t) {k:Nat} (hk:k < t.size):t.maskAt k < 2 ^ t.basics.length:=by
 unfold Tree.maskAt
 split
 . rename_i h1; exact Nat.pow_lt_pow_right (by omega) h1
 . exact Q9f h.nb (fun x hx=>(h.members (by unfold Tree.size at hk; omega) x hx).2)
theorem Valid.Y4c {t:Tree} (h:Valid t) (s:Nat):∀ k,k <= t.size -> t.Y2v s k < 2 ^ t.basics.length
 | 0,_=>Nat.two_pow_pos _
 | k + 1,hk=>by
   have ih:=h.Y4c s k (by omega)
   rw [Tree.Y2v]
   split
   . exact Nat.or_lt_two_pow ih (h.Y2r (by omega))
   . exact ih
theorem Y4z (t:Tree) (s i:Nat):∀ k,(t.Y2v s k).testBit i = (List.range k).any fun j=>s.testBit j && (t.maskAt j).testBit i
 | 0=>by simp [Tree.Y2v]
 | k + 1=>by
   rw [Tree.Y2v,List.range_succ,List.any_append,<- Y4z t s i k];cases h:s.testBit k
   . simp [h]
   . simp [h,Nat.testBit_or]
theorem X5m (a b:Nat) (p:Nat -> Bool):(List.range (a + b)).any p = ((List.range a).any p || (List.range b).any fun j=>p (a + j)):=by
 rw [List.range_add,List.any_append,List.any_map]; rfl
theorem Z6f (n i:Nat) (p:Nat -> Bool):((List.range n).any fun j=>p j && decide (i = j)) = (decide (i < n) && p i):=by
 induction n with
 | zero=>rfl
 | succ n ih =>
   rw [List.range_succ,List.any_append,ih]
   by_cases h:i = n
   . subst h; simp
   . by_cases h2:i < n
     . have h3:i < n + 1:=by omega
       simp [h,h2,h3]
     . have h3:¬ i < n + 1:=by omega
       simp [h,h2,h3]
theorem Valid.Z4z {t:Tree} (h:Valid t) (s:Nat):t.Y2v s t.size = Q4o (t.X2h (evN s)):=by
 apply Nat.eq_of_testBit_eq
 intro i;rw [Q4q]
 rcases Nat.lt_or_ge i t.basics.length with hi | hi
 . have e:bx (t.X2h (evN s)) i = t.Y9q (evN s) i:=by unfold bx Tree.X2h; simp [hi]
   rw [e,Y4z,Tree.size,X5m];unfold Tree.Y9q evN
   congr 1
   . have e2:((List.range t.basics.length).any fun j=>s.testBit j && (t.maskAt j).testBit i) = (List.range t.basics.length).any fun j=>s.testBit j && decide (i = j):=by
      rw [Bool.eq_iff_iff,List.any_eq_true,List.any_eq_true]
      constructor
      . rintro ⟨j,hj,h2⟩
        refine ⟨j,hj,?_⟩;unfold Tree.maskAt at h2
        rwa [if_pos (List.mem_range.1 hj),X4w] at h2
      . rintro ⟨j,hj,h2⟩
        refine ⟨j,hj,?_⟩;unfold Tree.maskAt
        rwa [if_pos (List.mem_range.1 hj),X4w]
     rw [e2,Z6f,decide_eq_true hi,Bool.true_and]
   . rw [Bool.eq_iff_iff,List.any_eq_true,List.any_eq_true]
     have e3:∀ j,j < t.causes.length -> (t.maskAt (t.basics.length + j)).testBit i = has (Q0f t.causes j) i:=by
      intro j hj;unfold Tree.maskAt;rw [if_neg (by omega),Nat.add_sub_cancel_left,X2f (fun x hx=>(h.members hj x hx).1)]
     constructor
     . rintro ⟨j,hj,h2⟩
       exact ⟨j,hj,by rwa [e3 j (List.mem_range.1 hj)] at h2⟩
     . rintro ⟨j,hj,h2⟩
       exact ⟨j,hj,by rwa [e3 j (List.mem_range.1 hj)]⟩
 . rw [Y1u (by simpa [Tree.X2h] using hi)]
   exact Nat.testBit_lt_two_pow (Nat.lt_of_lt_of_le (h.Y4c s _ (Nat.le_refl _)) (Nat.pow_le_pow_right (by omega) hi))
theorem Q6j (t:Tree) (ev:Nat -> Bool):∀ k,(t.Q6a ev k).length = t.basics.length + k
 | 0=>by simp [Tree.Q6a,Tree.X2h]
 | k + 1=>by rw [Tree.Q6a,List.length_append,Q6j t ev k]; simp; omega
theorem Valid.X8p {t:Tree} (h:Valid t) (ev:Nat -> Bool) {k:Nat} (hk:k <= t.gates.length):Q4o (t.Q6a ev k) < 2 ^ 44:=by
 refine Nat.lt_of_lt_of_le (Y5p _) ?_;rw [Q6j];have:=h.size; have:=h.ng';unfold Tree.size at this;exact Nat.pow_le_pow_right (by omega) (by have:=h.size; unfold Tree.size at this; omega)
theorem Valid.X4d {t:Tree} (h:Valid t) {k:Nat} (hk:k < t.gates.length):X7e (Q0m t.gates k) = true /\ (∀ x ∈ Q0m t.gates k,0 <= x /\ x < 44):=by
 have h1:=Q2x (Q6e (h.inputs hk)).2;have:=h.size; have:=h.ng';unfold Tree.size at *;exact ⟨h1.2,fun x hx=>by have:=h1.1 x hx; omega⟩
theorem Valid.step {t:Tree} (h:Valid t) (ev:Nat -> Bool) {k:Nat} (hk:k < t.gates.length) :
    Q4o (t.Q6a ev (k + 1)) = if (t.gt k).2 <= (X0e (Q4o (t.Q6a ev k) &&& (t.gt k).1) 64:Int) then Q4o (t.Q6a ev k) ||| 2 ^ (t.basics.length + k) else Q4o (t.Q6a ev k):=by
 obtain ⟨ha,hb⟩:=h.X4d hk;rw [Tree.Q6a,Y7o,Q6j,Tree.gt,Y4p ha (fun x hx=>by have:=hb x hx; omega)]
 unfold Z7x;simp only [decide_eq_true_eq]
theorem Valid.Z2n {t:Tree} (h:Valid t) {k:Nat} (hk:k < t.gates.length):(t.gt k).1 < 2 ^ 44 :=
 Q9f (by omega) (fun x hx=>((h.X4d hk).2 x hx).2)
def chV (c:List Int):Value:=.agg #[.int .i64 (ix c 0),.int .i64 (ix c 1),.int .i64 (ix c 2),.int .i64 (ix c 3),.int .i64 (ix c 4),.int .i64 (ix c 5),.int .i64 (ix c 6),.int .i64 (ix c 7),.int .i64 (ix c 8),.int .i64 (ix c 9),.int .i64 (ix c 10),.int .i64 (ix c 11)]
def RGt (_:World) (c:Nat -> Value) (x:Nat × Int):Prop:=c 0 = .int .i64 (x.1:Nat) /\ c 1 = .int .i64 x.2
theorem RGt.ext (w w':World) (c:Nat -> Value) (x:Nat × Int) (_:Ext w w') (h:RGt w c x):RGt w' c x:=h
def Y6p:World -> Value -> List (Nat × Int) -> Prop:=Go.Tw.Rows 2 RGt
theorem Y6p.ext {w w':World} {v:Value} {l:List (Nat × Int)} (h:Y6p w v l) (hx:Ext w w'):Y6p w' v l:=Rows.ext RGt.ext h hx
def evV (t:Tree) (c:List Int) (fv:Value):Value:=.agg #[.int .i64 t.size,fv,.int .i64 (ix c 0),.int .i64 (ix c 1),.int .i64 (ix c 2),.int .i64 (ix c 3),.int .i64 (ix c 4),.int .i64 (ix c 5),.int .i64 (ix c 6),.int .i64 (ix c 7),.int .i64 (ix c 8),.int .i64 (ix c 9),.int .i64 (ix c 10),.int .i64 (ix c 11)]
def noV (t:Tree) (c:List Int) (fv gv:Value):Value:=.agg #[.int .i64 t.size,fv,.int .i64 (ix c 0),.int .i64 (ix c 1),.int .i64 (ix c 2),.int .i64 (ix c 3),.int .i64 (ix c 4),.int .i64 (ix c 5),.int .i64 (ix c 6),.int .i64 (ix c 7),.int .i64 (ix c 8),.int .i64 (ix c 9),.int .i64 (ix c 10),.int .i64 (ix c 11),.int .i64 t.basics.length,gv]
structure Y2t (w:World) (fv gv:Value) (t:Tree):Prop where
 fails:Q0e w fv t.masks
 gates:Y6p w gv t.gts
theorem Y2t.ext {w w':World} {fv gv:Value} {t:Tree} (h:Y2t w fv gv t) (hx:Ext w w'):Y2t w' fv gv t:=⟨h.fails.ext hx,h.gates.ext hx⟩
theorem Y6p.opened {w:World} {v:Value} {t:Tree} (h:Y6p w v t.gts) :
    ∃ A cap,v = .slice A t.gates.length cap /\ t.gates.length <= 17592186043904 /\ t.gates.length <= cap /\ ∀ k,k < t.gates.length -> ∃ b off,A = some ⟨b,off,none⟩ /\ b < w.heap.size /\
     w.cell? ⟨b,off + k * 2,none⟩ = some (.int .i64 ((t.gt k).1:Nat)) /\ w.cell? ⟨b,off + k * 2 + 1,none⟩ = some (.int .i64 (t.gt k).2):=by
 obtain ⟨c,⟨A,cap,hv,hn,hcap,hc⟩,h2⟩:=h;rw [X4m] at hv hn hcap hc;refine ⟨A,cap,hv,hn,hcap,fun k hk=>?_⟩;obtain ⟨b,off,hA,h0⟩:=hc (k * 2) (by omega)
 obtain ⟨b',off',hA',h1⟩:=hc (k * 2 + 1) (by omega)
 rw [hA] at hA'; cases hA';obtain ⟨e0,e1⟩:=h2 k (by rw [X4m]; exact hk)
 have e:t.gts[k]'(by rw [X4m]; exact hk) = t.gt k:=by simp [Tree.gts]
 rw [e] at e0 e1;simp only [Nat.add_zero] at e0;refine ⟨b,off,hA,World.block_lt_of_cell? w _ h0,?_,?_⟩
 . rw [h0,e0]
 . rw [Nat.add_assoc]; exact h1.trans (congrArg some e1)
end Go.Tw
namespace Go.Proofs
open Go.RowKit Go.Tw Go.Flow
theorem Tryz.info4:(Tryz.prog.info? 4).map (fun i=>(i.zero,i.size,i.bytes)) = some (some (.bool false),1,1):=by kernel_rfl
end Go.Proofs
