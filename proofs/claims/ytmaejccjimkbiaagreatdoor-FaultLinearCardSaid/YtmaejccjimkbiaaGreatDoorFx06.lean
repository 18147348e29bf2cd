/- Contract of isName: a name by its bytes. Contracts: sets as bits; the order of sets. How many bits a number has, as math/bits reckons it: no program is in sight here. -/
import Derived.Test.YtmaejccjimkbiaaGreatDoorFx05
set_option linter.unusedVariables false
set_option linter.unusedSimpArgs false
set_option linter.constructorNameAsVariable false
namespace Go.Proofs
open Go.RowKit Go.Tw Go.Flow
def Q1x (first:Bool):List UInt8 → Bool
 | []=>true
 | c :: l=>(Q2q c || (!first && Q4k c)) && Q1x false l
theorem X2v:∀ l:List UInt8,Q1x false l = l.all fun c=>Q2q c || Q4k c
 | []=>rfl
 | c :: l=>by simp [Q1x,X2v l]
theorem Q2l (s:ByteArray):nameB s = (Q1x true s.data.toList && (decide (s.data.toList ≠ []) && decide (s.data.toList.length ≤ 24))):=by
 unfold nameB;cases s.data.toList with
 | nil=>rfl
 | cons c l =>
   simp only [Q1x,X2v,Bool.not_true,Bool.false_and,Bool.or_false,List.length_cons];rw [show decide (c :: l ≠ []) = true from by simp,Bool.true_and]
   congr 1
theorem Y3z (s:ByteArray) (pos:Nat) (h:pos < s.size):s.data.toList.drop pos = s[pos]'h :: s.data.toList.drop (pos + 1):=by
 have h':pos < s.data.toList.length:=by simpa using h
 rw [List.drop_eq_getElem_cons h'];rfl
theorem X7j (c:UInt8):Q2q c = (decide (97 ≤ c.toNat ∧ c.toNat ≤ 122) || decide (65 ≤ c.toNat ∧ c.toNat ≤ 90)):=by
 unfold Q2q;simp only [UInt8.le_iff_toNat_le];simp
theorem X9w (c:UInt8):Q4k c = (decide (c.toNat = 95) || decide (48 ≤ c.toNat ∧ c.toNat ≤ 57)):=by
 unfold Q4k;simp only [UInt8.le_iff_toNat_le];rw [show (c == 95) = decide (c.toNat = 95) from by rw [show (c == 95) = decide (c = 95) from rfl]; exact decide_eq_decide.2 ⟨fun h=>by subst h; rfl,fun h=>UInt8.toNat_inj.1 h⟩]
 simp
theorem Z3w (s:ByteArray) (pos:Nat) (h:pos < s.size):∃ n d,Utf8.decode s pos = (n,d) ∧ 1 ≤ d ∧ (n < 128 → n = (s[pos]'h).toNat ∧ d = 1) ∧ (128 ≤ n → 128 ≤ (s[pos]'h).toNat):=by
 by_cases ha:(s[pos]'h).toNat < 128
 · exact ⟨_,_,decode_ascii s pos h ha,Nat.le_refl _,fun _=>⟨rfl,rfl⟩,fun h'=>h'⟩
 · have:=decode_high s pos h (by omega)
   obtain ⟨n,d,hnd⟩:∃ n d,Utf8.decode s pos = (n,d):=⟨_,_,rfl⟩;rw [hnd] at this;exact ⟨n,d,hnd,this.2,fun h'=>by have:=this.1; omega,fun _=>by omega⟩
theorem Y3q {s:ByteArray} (h:s.toList = []):s.data.toList = []:=by rw [toList_nil_iff_emptyBytes] at h; subst h; rfl
theorem Y9u {s:ByteArray} (h:¬ s.toList = []):s.data.toList ≠ []:=fun e=>h (by
 rw [toList_nil_iff_emptyBytes];obtain ⟨⟨l⟩⟩:=s;simp only at e;subst e; rfl)
set_option maxHeartbeats 800000 in
theorem Y5y (w:World) (s:ByteArray) (hs:Short s) :
    Calls Tryz.prog 122 #[.string s] w fun e w'=>e = .returned (.bool (nameB s)) ∧ Ext w w':=by
 unfold Short at hs;go_enter Tryz.func122,Tryz.ntmps122;go_wp2
 go_loopw [9] (fun _ w'=>∃ pos:Nat,w' = w.iter s pos ∧ Q1x (pos == 0) (s.data.toList.drop pos) = Q1x true s.data.toList) (fun _ w'=>s.size - w'.iterPos w.heap.size)
 case atStart=>exact ⟨0,rfl,rfl⟩
 case round =>
  obtain ⟨pos,rfl,hc⟩:=hrel;have HC:=Lib.hid hc; clear hc
  by_cases hp:pos < s.size
  · obtain ⟨n,d,hd,hd1,hn1,hn2⟩:=Z3w s pos hp
    have hnx:∀ ty,(Instr.next (.pointer (some ⟨w.heap.size,0,none⟩)) true ty).run Tryz.prog (w.iter s pos) = .ok (.tuple #[.bool true,.int .i64 pos,.int .i32 n]) (w.iter s (pos + d)):=fun ty=>by
     rw [run_next_any w s pos ty hp,hd]
    have HB:=Lib.hid (Y3z s pos hp);have HL:=Lib.hid (X7j (s[pos]'hp));have HO:=Lib.hid (X9w (s[pos]'hp));obtain ⟨c,hcc⟩:∃ c,s[pos]'hp = c:=⟨_,rfl⟩;rw [hcc] at hn1 hn2 HB HL HO;have HN1:=Lib.hid hn1;have HN2:=Lib.hid hn2;clear hcc hd hn1 hn2;have hcl:(65 ≤ n ∧ n ≤ 90) ∨ (97 ≤ n ∧ n ≤ 122) ∨ (48 ≤ n ∧ n ≤ 57) ∨ n = 95 ∨ n < 48 ∨ (58 ≤ n ∧ n < 65) ∨ (91 ≤ n ∧ n < 97 ∧ n ≠ 95) ∨ 123 ≤ n:=by omega
    obtain ⟨N,hN⟩:∃ N:Int,(n:Int) = N:=⟨_,rfl⟩;rw [hN] at hnx
    rcases hcl with hcl | hcl | hcl | hcl | hcl | hcl | hcl | hcl
    · have f0:65 ≤ N:=by omega
      have f1:N ≤ 90:=by omega
      have HX:Hid (Q2q c = true):=by
       exact (by rw [HL.out,← (HN1.out (by omega)).1]; simp; omega:Q2q c = true)
      have HD:Hid (d = 1):=by exact (HN1.out (by omega)).2
      clear hcl hN;go_wp2;go_roundw
      case rel=>exact ⟨pos + d,rfl,by rw [← HC.out,HB.out,HD.out]; simp [Q1x,HX.out]⟩
      case measure=>simp; omega
    · have f0:65 ≤ N:=by omega
      have f1:¬ N ≤ 90:=by omega
      have f2:97 ≤ N:=by omega
      have f3:N ≤ 122:=by omega
      have HX:Hid (Q2q c = true):=by
       exact (by rw [HL.out,← (HN1.out (by omega)).1]; simp; omega:Q2q c = true)
      have HD:Hid (d = 1):=by exact (HN1.out (by omega)).2
      clear hcl hN;go_wp2;go_roundw
      case rel=>exact ⟨pos + d,rfl,by rw [← HC.out,HB.out,HD.out]; simp [Q1x,HX.out]⟩
      case measure=>simp; omega
    · have f0:¬ 65 ≤ N:=by omega
      have f1:¬ 97 ≤ N:=by omega
      have f2:48 ≤ N:=by omega
      have f3:N ≤ 57:=by omega
      have HX:Hid (Q2q c = false ∧ Q4k c = true):=by
       exact (by rw [HL.out,HO.out,← (HN1.out (by omega)).1]; simp; omega:Q2q c = false ∧ Q4k c = true)
      have HD:Hid (d = 1):=by exact (HN1.out (by omega)).2
      clear hcl hN
      by_cases h0:pos = 0
      · subst h0
        go_wp2;go_ret;exact ⟨Q1q (by rw [Q2l,← HC.out,HB.out]; simp [Q1x,HX.out.1]),Ext.box _ _⟩
      · have h0':(((pos:Nat):Int) == 0) = false:=by rw [beq_eq_false_iff_ne]; omega
        have HP:=Lib.hid h0; clear h0;go_wp2;go_roundw
        case rel=>exact ⟨pos + d,rfl,by rw [← HC.out,HB.out,HD.out]; simp [Q1x,HX.out.1,HX.out.2,HP.out]⟩
        case measure=>simp; omega
    · have f0:65 ≤ N:=by omega
      have f1:¬ N ≤ 90:=by omega
      have f2:¬ 97 ≤ N:=by omega
      have f3:48 ≤ N:=by omega
      have f4:¬ N ≤ 57:=by omega
      have f5:(N == 95) = true:=by rw [beq_iff_eq]; omega
      have HX:Hid (Q2q c = false ∧ Q4k c = true):=by
       exact (by rw [HL.out,HO.out,← (HN1.out (by omega)).1]; simp; omega:Q2q c = false ∧ Q4k c = true)
      have HD:Hid (d = 1):=by exact (HN1.out (by omega)).2
      clear hcl hN
      by_cases h0:pos = 0
      · subst h0
        go_wp2;go_ret;exact ⟨Q1q (by rw [Q2l,← HC.out,HB.out]; simp [Q1x,HX.out.1]),Ext.box _ _⟩
      · have h0':(((pos:Nat):Int) == 0) = false:=by rw [beq_eq_false_iff_ne]; omega
        have HP:=Lib.hid h0; clear h0;go_wp2;go_roundw
        case rel=>exact ⟨pos + d,rfl,by rw [← HC.out,HB.out,HD.out]; simp [Q1x,HX.out.1,HX.out.2,HP.out]⟩
        case measure=>simp; omega
    · have f0:¬ 65 ≤ N:=by omega
      have f1:¬ 97 ≤ N:=by omega
      have f2:¬ 48 ≤ N:=by omega
      have f3:(N == 95) = false:=by rw [beq_eq_false_iff_ne]; omega
      have HX:Hid (Q2q c = false ∧ Q4k c = false):=by
       exact (by
        rcases Nat.lt_or_ge n 128 with h | h
        · rw [HL.out,HO.out,← (HN1.out h).1]; simp; omega
        · have:=HN2.out h
          rw [HL.out,HO.out]; simp; omega:Q2q c = false ∧ Q4k c = false)
      clear hcl hN
      by_cases h0:pos = 0
      · subst h0
        go_wp2;go_ret;exact ⟨Q1q (by rw [Q2l,← HC.out,HB.out]; simp [Q1x,HX.out.1]),Ext.box _ _⟩
      · have h0':(((pos:Nat):Int) == 0) = false:=by rw [beq_eq_false_iff_ne]; omega
        have HP:=Lib.hid h0; clear h0;go_wp2;go_ret;exact ⟨Q1q (by rw [Q2l,← HC.out,HB.out]; simp [Q1x,HX.out.1,HX.out.2]),Ext.box _ _⟩
    · have f0:¬ 65 ≤ N:=by omega
      have f1:¬ 97 ≤ N:=by omega
      have f2:48 ≤ N:=by omega
      have f3:¬ N ≤ 57:=by omega
      have f4:(N == 95) = false:=by rw [beq_eq_false_iff_ne]; omega
      have HX:Hid (Q2q c = false ∧ Q4k c = false):=by
       exact (by
        rcases Nat.lt_or_ge n 128 with h | h
        · rw [HL.out,HO.out,← (HN1.out h).1]; simp; omega
        · have:=HN2.out h
          rw [HL.out,HO.out]; simp; omega:Q2q c = false ∧ Q4k c = false)
      clear hcl hN
      by_cases h0:pos = 0
      · subst h0
        go_wp2;go_ret;exact ⟨Q1q (by rw [Q2l,← HC.out,HB.out]; simp [Q1x,HX.out.1]),Ext.box _ _⟩
      · have h0':(((pos:Nat):Int) == 0) = false:=by rw [beq_eq_false_iff_ne]; omega
        have HP:=Lib.hid h0; clear h0;go_wp2;go_ret;exact ⟨Q1q (by rw [Q2l,← HC.out,HB.out]; simp [Q1x,HX.out.1,HX.out.2]),Ext.box _ _⟩
    · have f0:65 ≤ N:=by omega
      have f1:¬ N ≤ 90:=by omega
      have f2:¬ 97 ≤ N:=by omega
      have f3:48 ≤ N:=by omega
      have f4:¬ N ≤ 57:=by omega
      have f5:(N == 95) = false:=by rw [beq_eq_false_iff_ne]; omega
      have HX:Hid (Q2q c = false ∧ Q4k c = false):=by
       exact (by
        rcases Nat.lt_or_ge n 128 with h | h
        · rw [HL.out,HO.out,← (HN1.out h).1]; simp; omega
        · have:=HN2.out h
          rw [HL.out,HO.out]; simp; omega:Q2q c = false ∧ Q4k c = false)
      clear hcl hN
      by_cases h0:pos = 0
      · subst h0
        go_wp2;go_ret;exact ⟨Q1q (by rw [Q2l,← HC.out,HB.out]; simp [Q1x,HX.out.1]),Ext.box _ _⟩
      · have h0':(((pos:Nat):Int) == 0) = false:=by rw [beq_eq_false_iff_ne]; omega
        have HP:=Lib.hid h0; clear h0;go_wp2;go_ret;exact ⟨Q1q (by rw [Q2l,← HC.out,HB.out]; simp [Q1x,HX.out.1,HX.out.2]),Ext.box _ _⟩
    · have f0:65 ≤ N:=by omega
      have f1:¬ N ≤ 90:=by omega
      have f2:97 ≤ N:=by omega
      have f3:¬ N ≤ 122:=by omega
      have f4:48 ≤ N:=by omega
      have f5:¬ N ≤ 57:=by omega
      have f6:(N == 95) = false:=by rw [beq_eq_false_iff_ne]; omega
      have HX:Hid (Q2q c = false ∧ Q4k c = false):=by
       exact (by
        rcases Nat.lt_or_ge n 128 with h | h
        · rw [HL.out,HO.out,← (HN1.out h).1]; simp; omega
        · have:=HN2.out h
          rw [HL.out,HO.out]; simp; omega:Q2q c = false ∧ Q4k c = false)
      clear hcl hN
      by_cases h0:pos = 0
      · subst h0
        go_wp2;go_ret;exact ⟨Q1q (by rw [Q2l,← HC.out,HB.out]; simp [Q1x,HX.out.1]),Ext.box _ _⟩
      · have h0':(((pos:Nat):Int) == 0) = false:=by rw [beq_eq_false_iff_ne]; omega
        have HP:=Lib.hid h0; clear h0;go_wp2;go_ret;exact ⟨Q1q (by rw [Q2l,← HC.out,HB.out]; simp [Q1x,HX.out.1,HX.out.2]),Ext.box _ _⟩
  · have hnx:∀ ty,(Instr.next (.pointer (some ⟨w.heap.size,0,none⟩)) true ty).run Tryz.prog (w.iter s pos) = _:=fun ty=>run_next_end w s pos ty hp
    have HF:Hid (Q1x true s.data.toList = true):=by
     exact (by rw [← HC.out,List.drop_eq_nil_of_le (by simpa using hp)]; rfl:Q1x true s.data.toList = true)
    have hsz:s.data.toList.length = s.size:=by simp
    have HS:=Lib.hid hsz;clear hsz hp
    by_cases h24:(s.size:Int) ≤ 24
    · have H24:=Lib.hid h24
      go_wp2
      · have he:s.toList = []:=by assumption
        go_ret;exact ⟨Q1q (by rw [Q2l,HF.out,Y3q he]; rfl),Ext.box _ _⟩
      · have he:¬ s.toList = []:=by assumption
        go_ret;exact ⟨Q1q (by have:=HS.out; have:=H24.out; rw [Q2l,HF.out,Bool.true_and,decide_eq_true (Y9u he),Bool.true_and]; rw [decide_eq_true (by omega:s.data.toList.length ≤ 24)]; simp [he]),Ext.box _ _⟩
    · have H24:=Lib.hid h24
      go_wp2
      · have he:s.toList = []:=by assumption
        go_ret;exact ⟨Q1q (by rw [Q2l,HF.out,Y3q he]; rfl),Ext.box _ _⟩
      · have he:¬ s.toList = []:=by assumption
        go_ret;exact ⟨Q1q (by have:=HS.out; have:=H24.out; rw [Q2l,HF.out,Bool.true_and,decide_eq_true (Y9u he),Bool.true_and]; exact (decide_eq_false (by omega)).symm),Ext.box _ _⟩
end Go.Proofs
namespace Go.Proofs
open Go.RowKit Go.Tw Go.Flow
theorem Y2j {n:Nat} (h:n < 62):wrap64 (2 ^ n) = ((2 ^ n:Nat):Int):=by
 have h1:(2:Nat) ^ n < 2 ^ 62:=Nat.pow_lt_pow_right (by omega) h
 have h2:((2 ^ n:Nat):Int) = 2 ^ n:=by simp
 rw [← h2];obtain ⟨m,hm⟩:∃ m,2 ^ n = m:=⟨_,rfl⟩;rw [hm] at h1 ⊢;unfold wrap64;omega
theorem Y8a {a n:Nat} (ha:a < 2 ^ 62) (h:n < 62):bits .or .i64 (a:Int) (wrap64 (2 ^ n)) = ((a ||| 2 ^ n:Nat):Int):=by
 rw [Y2j h,Z6i ha (Nat.pow_lt_pow_right (by omega) h)]
set_option maxHeartbeats 400000 in
theorem X1a (w:World) (v:Value) (l:List Int) (hv:Q0f w v l) (hb:∀ x ∈ l,0 ≤ x ∧ x < 62) :
    Calls Tryz.prog 73 #[v] w fun e w'=>e = .returned (.int .i64 (Q1n l:Nat)) ∧ w = w':=by
 obtain ⟨A,cap,rfl,hl,hcap,hc⟩:=hv.opened;have HB:=Lib.hid hb;clear hv hb;go_enter Tryz.func73,Tryz.ntmps73;go_wp2
 go_loop [3,8] (fun o i=>∃ (k a:Nat),k ≤ l.length ∧ i = .int .i64 k ∧ o = .int .i64 a ∧ a < 2 ^ 62 ∧ X4u a (l.drop k) = Q1n l) (fun _ i=>l.length - (intOf i).toNat)
 case atStart=>exact ⟨0,0,Nat.zero_le _,rfl,rfl,by decide,rfl⟩
 case round =>
  obtain ⟨k,a,hk,rfl,rfl,ha,hr⟩:=hrel;have HR:=Lib.hid hr; clear hr
  by_cases hlt:k < l.length
  · obtain ⟨b,off,rfl,hcell⟩:=hc k hlt
    have hb:=HB.out (ix l k) (by rw [Q8m hlt]; exact List.getElem_mem hlt)
    obtain ⟨n,hn⟩:∃ n:Nat,ix l k = (n:Int):=⟨(ix l k).toNat,by omega⟩
    have HN:=Lib.hid hn;rw [hn] at hcell;have hn2:n < 62:=by omega
    have HA:=Lib.hid ha;clear hc hb hn ha;go_wp2;go_round
    case rel=>exact ⟨k + 1,a ||| 2 ^ n,by omega,by go_num,by rw [Y8a HA.out hn2],Nat.or_lt_two_pow HA.out (Nat.pow_lt_pow_right (by omega) hn2),by rw [← HR.out,Q3q hlt,X0q,HN.out]; rfl⟩
    case measure=>simp [intOf]; omega
  · clear hc
    go_wp2;go_ret;exact ⟨Q1f (by rw [← HR.out,List.drop_eq_nil_of_le (by omega)]; rfl),rfl⟩
def Y7y (x y:Int):Int:=if x < y then -1 else if y < x then 1 else 0
def cmpL:List Int → List Int → Int
 | [],[]=>0
 | [],_ :: _=>-1
 | _ :: _,[]=>1
 | x :: l,y :: m=>if x = y then cmpL l m else Y7y x y
def Q4x (a b:List Int):Int:=if a.length = b.length then cmpL a b else (a.length:Int) - b.length
theorem Y7b {a b:List Int} {k:Nat} (ha:k < a.length) (hb:k < b.length):cmpL (a.drop k) (b.drop k) = if ix a k = ix b k then cmpL (a.drop (k + 1)) (b.drop (k + 1)) else Y7y (ix a k) (ix b k):=by
 rw [Q3q ha,Q3q hb]; rfl
theorem X7f (w:World) (x y:Int) :
    Calls Tryz.prog 185 #[.int .i64 x,.int .i64 y] w fun e w'=>e = .returned (.int .i64 (Y7y x y)) ∧ w = w':=by
 unfold Y7y
 by_cases h1:x < y
 · rw [if_pos h1]
   go_enter Tryz.func185,Tryz.ntmps185;go_wp2;go_ret;exact ⟨rfl,rfl⟩
 · by_cases h2:y < x
   · rw [if_neg h1,if_pos h2]
     go_enter Tryz.func185,Tryz.ntmps185;go_wp2;go_ret;exact ⟨rfl,rfl⟩
   · rw [if_neg h1,if_neg h2]
     go_enter Tryz.func185,Tryz.ntmps185;go_wp2;go_ret;exact ⟨rfl,rfl⟩
set_option maxHeartbeats 800000 in
theorem Y3k (w:World) (u v:Value) (a b:List Int) (hu:Q0f w u a) (hv:Q0f w v b) (hab:a.length = b.length) :
    Calls Tryz.prog 164 #[u,v] w fun e w'=>e = .returned (.int .i64 (cmpL a b)) ∧ w = w':=by
 obtain ⟨A,ca,rfl,hla,hcapa,hca⟩:=hu.opened;obtain ⟨B,cb,rfl,hlb,hcapb,hcb⟩:=hv.opened;clear hu hv;obtain ⟨m,hma⟩:∃ m,a.length = m:=⟨_,rfl⟩;have hmb:b.length = m:=by omega
 rw [hma] at hla hcapa hca ⊢;rw [hmb] at hlb hcapb hcb ⊢;have HMA:=Lib.hid hma;have HMB:=Lib.hid hmb;clear hab hma hmb;go_enter Tryz.func164,Tryz.ntmps164;go_wp2
 go_loop [11] (fun i=>∃ k:Nat,k ≤ m ∧ i = .int .i64 k ∧ cmpL (a.drop k) (b.drop k) = cmpL a b) (fun i=>m - (intOf i).toNat)
 case atStart=>exact ⟨0,Nat.zero_le _,rfl,rfl⟩
 case round =>
  obtain ⟨k,hk,rfl,hr⟩:=hrel;have HR:=Lib.hid hr; clear hr
  by_cases hlt:k < m
  · skip
    obtain ⟨b1,off1,rfl,hc1⟩:=hca k hlt;obtain ⟨b2,off2,rfl,hc2⟩:=hcb k hlt;clear hca hcb;have HS:=Lib.hid (Y7b (a:=a) (b:=b) (k:=k) (by rw [HMA.out]; exact hlt) (by rw [HMB.out]; exact hlt))
    obtain ⟨x,hx⟩:∃ x,ix a k = x:=⟨_,rfl⟩;obtain ⟨y,hy⟩:∃ y,ix b k = y:=⟨_,rfl⟩;rw [hx,hy] at HS;rw [hx] at hc1;rw [hy] at hc2;clear hx hy
    by_cases he:x = y
    · have hz:(Y7y x y != 0) = false:=by unfold Y7y; subst he; simp
      have HE:=Lib.hid he; clear he;go_wp2_with (go_at_call 185; refine (X7f _ _ _).mono ?_; rintro e w' ⟨rfl,rfl⟩);go_round
      case rel=>exact ⟨k + 1,by omega,by go_num,by rw [← HR.out,HS.out,if_pos HE.out]⟩
      case measure=>simp [intOf]; omega
    · have hz:(Y7y x y != 0) = true:=by
       unfold Y7y
       rcases Int.lt_or_gt_of_ne he with h | h
       · rw [if_pos h]; rfl
       · rw [if_neg (by omega),if_pos h]; rfl
      have HE:=Lib.hid he; clear he;go_wp2_with (go_at_call 185; refine (X7f _ _ _).mono ?_; rintro e w' ⟨rfl,rfl⟩);go_ret;exact ⟨Q1f (by rw [← HR.out,HS.out,if_neg HE.out]),rfl⟩
  · clear hca hcb
    go_wp2;go_ret;exact ⟨Q1f (by rw [← HR.out,List.drop_eq_nil_of_le (by rw [HMA.out]; omega),List.drop_eq_nil_of_le (by rw [HMB.out]; omega)]; rfl),rfl⟩
set_option maxHeartbeats 400000 in
theorem Y2t (w:World) (u v:Value) (a b:List Int) (hu:Q0f w u a) (hv:Q0f w v b) :
    Calls Tryz.prog 130 #[u,v] w fun e w'=>e = .returned (.int .i64 (Q4x a b)) ∧ w = w':=by
 have HU:=Lib.hid hu;have HV:=Lib.hid hv;obtain ⟨A,ca,rfl,hla,hcapa,hca⟩:=hu.opened;obtain ⟨B,cb,rfl,hlb,hcapb,hcb⟩:=hv.opened;clear hu hv hca hcb;unfold Q4x
 by_cases hab:a.length = b.length
 · rw [if_pos hab]
   have HAB:=Lib.hid hab;have hne:(((a.length:Nat):Int) != ((b.length:Nat):Int)) = false:=by simp [hab]
   clear hab;go_enter Tryz.func130,Tryz.ntmps130;go_wp2_with (go_at_call 164; refine (Y3k _ _ _ a b HU.out HV.out HAB.out).mono ?_; rintro e w' ⟨rfl,rfl⟩);go_ret;exact ⟨rfl,rfl⟩
 · rw [if_neg hab]
   have hne:(((a.length:Nat):Int) != ((b.length:Nat):Int)) = true:=by simp; omega
   clear hab;go_enter Tryz.func130,Tryz.ntmps130;go_wp2;go_ret;exact ⟨rfl,rfl⟩
end Go.Proofs
namespace Go.Tw
theorem Q9o (A B:Nat):A &&& B = (A % 256 &&& B % 256) + 256 * (A / 256 &&& B / 256):=by
 have h:=Nat.div_add_mod (A &&& B) 256;rw [show (256:Nat) = 2 ^ 8 from rfl,Nat.and_mod_two_pow,Nat.and_div_two_pow] at h
 rw [show (256:Nat) = 2 ^ 8 from rfl]
 omega
def Q1t:List Nat → Nat
 | []=>0
 | y :: l=>y + 256 * Q1t l
def X8s (m:Nat):Nat → Nat
 | 0=>0
 | k + 1=>m + 256 * X8s m k
def f1 (y:Nat):Nat:=(y / 2 &&& 85) + (y &&& 85)
def f2 (y:Nat):Nat:=(y / 4 &&& 51) + (y &&& 51)
def f3 (y:Nat):Nat:=(y / 16 + y) &&& 15
theorem X3a (A m:Nat):A &&& m ≤ m:=Nat.and_le_right
set_option maxRecDepth 100000 in
theorem step1:∀ l:List Nat,(∀ y ∈ l,y < 256) → (Q1t l / 2 &&& X8s 85 l.length) + (Q1t l &&& X8s 85 l.length) = Q1t (l.map f1)
 | [],_=>rfl
 | y :: l,h=>by
   have hy:=h y (List.mem_cons_self ..);have ih:=step1 l (fun z hz=>h z (List.mem_cons_of_mem _ hz));rw [List.length_cons,X8s,Q1t,List.map_cons,Q1t,← ih];rw [Q9o ((y + 256 * Q1t l) / 2),Q9o (y + 256 * Q1t l)];rw [show (y + 256 * Q1t l) / 2 % 256 = y / 2 + 128 * (Q1t l % 2) from by omega,show (y + 256 * Q1t l) / 2 / 256 = Q1t l / 2 from by omega,show (85 + 256 * X8s 85 l.length) % 256 = 85 from by omega,show (85 + 256 * X8s 85 l.length) / 256 = X8s 85 l.length from by omega,show (y + 256 * Q1t l) % 256 = y from by omega,show (y + 256 * Q1t l) / 256 = Q1t l from by omega]
   have e:∀ y,y < 256 → ∀ c,c < 2 → (y / 2 + 128 * c) &&& 85 = y / 2 &&& 85:=by decide +kernel
   rw [e y hy _ (by omega),f1]
   omega
set_option maxRecDepth 100000 in
theorem step2:∀ l:List Nat,(∀ y ∈ l,y < 256) → (Q1t l / 4 &&& X8s 51 l.length) + (Q1t l &&& X8s 51 l.length) = Q1t (l.map f2)
 | [],_=>rfl
 | y :: l,h=>by
   have hy:=h y (List.mem_cons_self ..);have ih:=step2 l (fun z hz=>h z (List.mem_cons_of_mem _ hz));rw [List.length_cons,X8s,Q1t,List.map_cons,Q1t,← ih];rw [Q9o ((y + 256 * Q1t l) / 4),Q9o (y + 256 * Q1t l)];rw [show (y + 256 * Q1t l) / 4 % 256 = y / 4 + 64 * (Q1t l % 4) from by omega,show (y + 256 * Q1t l) / 4 / 256 = Q1t l / 4 from by omega,show (51 + 256 * X8s 51 l.length) % 256 = 51 from by omega,show (51 + 256 * X8s 51 l.length) / 256 = X8s 51 l.length from by omega,show (y + 256 * Q1t l) % 256 = y from by omega,show (y + 256 * Q1t l) / 256 = Q1t l from by omega]
   have e:∀ y,y < 256 → ∀ c,c < 4 → (y / 4 + 64 * c) &&& 51 = y / 4 &&& 51:=by decide +kernel
   rw [e y hy _ (by omega),f2]
   omega
theorem Z3k:∀ l:List Nat,(∀ y ∈ l,y % 16 ≤ 4) → Q1t l % 16 ≤ 4
 | [],_=>by simp [Q1t]
 | y :: l,h=>by
   have:=h y (List.mem_cons_self ..);rw [Q1t]; omega
theorem step3:∀ l:List Nat,(∀ y ∈ l,y % 16 ≤ 4 ∧ y / 16 ≤ 4) → (Q1t l / 16 + Q1t l) &&& X8s 15 l.length = Q1t (l.map f3)
 | [],_=>rfl
 | y :: l,h=>by
   have hy:=h y (List.mem_cons_self ..);have ih:=step3 l (fun z hz=>h z (List.mem_cons_of_mem _ hz));have hn:=Z3k l (fun z hz=>(h z (List.mem_cons_of_mem _ hz)).1);rw [List.length_cons,X8s,Q1t,List.map_cons,Q1t,← ih];rw [Q9o ((y + 256 * Q1t l) / 16 + (y + 256 * Q1t l))];rw [show ((y + 256 * Q1t l) / 16 + (y + 256 * Q1t l)) % 256 = y / 16 + y + 16 * (Q1t l % 16) from by omega,show ((y + 256 * Q1t l) / 16 + (y + 256 * Q1t l)) / 256 = Q1t l / 16 + Q1t l from by omega,show (15 + 256 * X8s 15 l.length) % 256 = 15 from by omega,show (15 + 256 * X8s 15 l.length) / 256 = X8s 15 l.length from by omega]
   have e:∀ y,y < 69 → ∀ c,c < 5 → (y / 16 + y + 16 * c) &&& 15 = (y / 16 + y) &&& 15:=by decide +kernel
   rw [e y (by omega) _ (by omega),f3]
def X0e (n k:Nat):Nat:=(List.range k).countP fun i=>n.testBit i
theorem Y8x (n k:Nat):X0e n (8 + k) = X0e (n % 256) 8 + X0e (n / 256) k:=by
 unfold X0e;rw [List.range_add,List.countP_append,List.countP_map]
 congr 1
 · refine List.countP_congr fun i hi=>?_
   rw [show (256:Nat) = 2 ^ 8 from rfl,Nat.testBit_mod_two_pow,decide_eq_true (List.mem_range.1 hi),Bool.true_and]
 · refine List.countP_congr fun i _=>?_
   rw [show (256:Nat) = 2 ^ 8 from rfl,Nat.testBit_div_two_pow]
   show n.testBit (8 + i) = true ↔ _;rw [Nat.add_comm]
set_option maxRecDepth 100000 in
theorem X4d:∀ y,y < 256 → f3 (f2 (f1 y)) = X0e y 8 ∧ f1 y < 256 ∧ f2 (f1 y) % 16 ≤ 4 ∧ f2 (f1 y) / 16 ≤ 4 ∧ X0e y 8 ≤ 8:=by decide +kernel
def byteAt (n j:Nat):Nat:=n / 256 ^ j % 256
theorem Z1v {n:Nat} (h:n < 2 ^ 64):Q1t [byteAt n 0,byteAt n 1,byteAt n 2,byteAt n 3,byteAt n 4,byteAt n 5,byteAt n 6,byteAt n 7] = n:=by
 simp only [Q1t,byteAt];omega
theorem Z5t (n:Nat):X0e n 64 = X0e (byteAt n 0) 8 + X0e (byteAt n 1) 8 + X0e (byteAt n 2) 8 + X0e (byteAt n 3) 8 + X0e (byteAt n 4) 8 + X0e (byteAt n 5) 8 + X0e (byteAt n 6) 8 + X0e (byteAt n 7) 8:=by
 rw [show (64:Nat) = 8 + (8 + (8 + (8 + (8 + (8 + (8 + (8 + 0))))))) from rfl]
 simp only [Y8x];have e:X0e (n / 256 / 256 / 256 / 256 / 256 / 256 / 256 / 256) 0 = 0:=rfl;rw [e];simp only [byteAt,Nat.div_div_eq_div_mul];simp only [Nat.reducePow,Nat.reduceMul,Nat.div_one];omega
def X7r (x:Nat):Nat:=(x / 2 &&& 6148914691236517205) + (x &&& 6148914691236517205)
def Y0i (x:Nat):Nat:=(x / 4 &&& 3689348814741910323) + (x &&& 3689348814741910323)
def Y7h (x:Nat):Nat:=(x / 16 + x) &&& 1085102592571150095
theorem Y6r {n:Nat} (h:n < 2 ^ 64):∃ c0 c1 c2 c3 c4 c5 c6 c7:Nat,Y7h (Y0i (X7r n)) = Q1t [c0,c1,c2,c3,c4,c5,c6,c7] ∧ c0 ≤ 8 ∧ c1 ≤ 8 ∧ c2 ≤ 8 ∧ c3 ≤ 8 ∧ c4 ≤ 8 ∧ c5 ≤ 8 ∧ c6 ≤ 8 ∧ c7 ≤ 8 ∧ X0e n 64 = c0 + c1 + c2 + c3 + c4 + c5 + c6 + c7:=by
 obtain ⟨l,hl⟩:∃ l,[byteAt n 0,byteAt n 1,byteAt n 2,byteAt n 3,byteAt n 4,byteAt n 5,byteAt n 6,byteAt n 7] = l:=⟨_,rfl⟩;have hb:∀ y ∈ l,y < 256:=by
  subst hl;intro y hy;simp only [List.mem_cons,List.not_mem_nil,or_false] at hy
  rcases hy with rfl | rfl | rfl | rfl | rfl | rfl | rfl | rfl <;> exact Nat.mod_lt _ (by decide)
 have hlen:l.length = 8:=by subst hl; rfl
 have e1:X7r n = Q1t (l.map f1):=by
  rw [← step1 l hb,hlen,← Z1v h,hl]; rfl
 have hb1:∀ y ∈ l.map f1,y < 256:=fun y hy=>by obtain ⟨z,hz,rfl⟩:=List.mem_map.1 hy; exact (X4d z (hb z hz)).2.1
 have e2:Y0i (X7r n) = Q1t ((l.map f1).map f2):=by
  rw [e1,← step2 _ hb1,List.length_map,hlen]; rfl
 have hb2:∀ y ∈ (l.map f1).map f2,y % 16 ≤ 4 ∧ y / 16 ≤ 4:=fun y hy=>by
  obtain ⟨u,hu,rfl⟩:=List.mem_map.1 hy;obtain ⟨z,hz,rfl⟩:=List.mem_map.1 hu;exact ⟨(X4d z (hb z hz)).2.2.1,(X4d z (hb z hz)).2.2.2.1⟩
 have e3:Y7h (Y0i (X7r n)) = Q1t (((l.map f1).map f2).map f3):=by
  rw [e2,← step3 _ hb2,List.length_map,List.length_map,hlen]; rfl
 have hp:=fun j=>X4d (byteAt n j) (Nat.mod_lt _ (by decide))
 refine ⟨X0e (byteAt n 0) 8,X0e (byteAt n 1) 8,X0e (byteAt n 2) 8,X0e (byteAt n 3) 8,X0e (byteAt n 4) 8,X0e (byteAt n 5) 8,X0e (byteAt n 6) 8,X0e (byteAt n 7) 8,?_,
  (hp 0).2.2.2.2,(hp 1).2.2.2.2,(hp 2).2.2.2.2,(hp 3).2.2.2.2,(hp 4).2.2.2.2,(hp 5).2.2.2.2,(hp 6).2.2.2.2,(hp 7).2.2.2.2,Z5t n⟩
 rw [e3,← hl];simp only [List.map_cons,List.map_nil,(hp _).1]
theorem Y7f {x r q m:Nat} (hm:0 < m) (h:x = r + m * q) (hr:r < m):x / m = q:=by
 rw [h,Nat.add_mul_div_left _ _ hm,Nat.div_eq_of_lt hr,Nat.zero_add]
theorem Z5a {x r q m:Nat} (h:x = r + m * q) (hr:r < m):x % m = r:=by
 rw [h,Nat.add_mul_mod_self_left,Nat.mod_eq_of_lt hr]
theorem Z1j {c0 c1 c2 c3 c4 c5 c6 c7 x a b c:Nat} (hx:x = Q1t [c0,c1,c2,c3,c4,c5,c6,c7]) (h0:c0 ≤ 8) (h1:c1 ≤ 8) (h2:c2 ≤ 8) (h3:c3 ≤ 8) (h4:c4 ≤ 8) (h5:c5 ≤ 8) (h6:c6 ≤ 8) (h7:c7 ≤ 8)
    (ea:x + x / 256 = a) (eb:a + a / 65536 = b) (ec:b + b / 4294967296 = c) :
    x ≤ 600000000000000000 ∧ a ≤ 605000000000000000 ∧ b ≤ 606000000000000000 ∧ c ≤ 607000000000000000 ∧ c % 128 = c0 + c1 + c2 + c3 + c4 + c5 + c6 + c7:=by
 simp only [Q1t] at hx;have hx':x = c0 + 256 * (c1 + 256 * c2 + 65536 * c3 + 16777216 * c4 + 4294967296 * c5 + 1099511627776 * c6 + 281474976710656 * c7):=by clear ea eb ec; rw [hx]; omega
 clear hx;rw [Y7f (by decide) hx' (by clear hx' ea eb ec; omega)] at ea
 have ha:a = ((c0 + c1) + 256 * (c1 + c2)) + 65536 * ((c2 + c3) + 256 * (c3 + c4) + 65536 * (c4 + c5) + 16777216 * (c5 + c6) + 4294967296 * (c6 + c7) + 1099511627776 * c7):=by rw [← ea,hx']; clear hx' ea eb ec; omega
 clear ea;rw [Y7f (by decide) ha (by clear ha hx' eb ec; omega)] at eb
 have hb:b = ((c0 + c1 + c2 + c3) + 256 * (c1 + c2 + c3 + c4) + 65536 * (c2 + c3 + c4 + c5) + 16777216 * (c3 + c4 + c5 + c6)) + 4294967296 * ((c4 + c5 + c6 + c7) + 256 * (c5 + c6 + c7) + 65536 * (c6 + c7) + 16777216 * c7):=by rw [← eb,ha]; clear ha hx' eb ec; omega
 clear eb;rw [Y7f (by decide) hb (by clear hb ha hx' ec; omega)] at ec
 have hc:c = (c0 + c1 + c2 + c3 + c4 + c5 + c6 + c7) + 128 * (2 * ((c1 + c2 + c3 + c4 + c5 + c6 + c7) + 256 * (c2 + c3 + c4 + c5 + c6 + c7) + 65536 * (c3 + c4 + c5 + c6 + c7) + 16777216 * (c4 + c5 + c6 + c7) + 4294967296 * (c5 + c6 + c7) + 1099511627776 * (c6 + c7) + 281474976710656 * c7)):=by rw [← ec,hb]; clear hb ha hx' ec; omega
 clear ec;refine ⟨by rw [hx']; clear hx' ha hb hc; omega,by rw [ha]; clear hx' ha hb hc; omega,by rw [hb]; clear hx' ha hb hc; omega,by rw [hc]; clear hx' ha hb hc; omega,Z5a hc (by clear hx' ha hb hc; omega)⟩
theorem Y5h {n x a b c:Nat} (h:n < 2 ^ 64) (ex:Y7h (Y0i (X7r n)) = x) (ea:x + x / 256 = a) (eb:a + a / 65536 = b) (ec:b + b / 4294967296 = c) :
    x ≤ 600000000000000000 ∧ a ≤ 605000000000000000 ∧ b ≤ 606000000000000000 ∧ c ≤ 607000000000000000 ∧ c % 128 = X0e n 64:=by
 obtain ⟨c0,c1,c2,c3,c4,c5,c6,c7,hx,h0,h1,h2,h3,h4,h5,h6,h7,hp⟩:=Y6r h;rw [ex] at hx;rw [hp];exact Z1j hx h0 h1 h2 h3 h4 h5 h6 h7 ea eb ec
end Go.Tw
