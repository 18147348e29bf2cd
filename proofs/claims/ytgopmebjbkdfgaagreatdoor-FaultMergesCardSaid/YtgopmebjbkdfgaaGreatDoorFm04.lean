/- Sets of numbers as the bits of a number, and Go's operators on them: no program is in sight here. Contracts of small functions of the program: when, first, within, ascending. Contract of isName: a name by its bytes. Contracts: sets as bits; the order of sets. -/
import Derived.Test.YtgopmebjbkdfgaaGreatDoorFm01
import Derived.Laws.BitsLemmas
import Derived.Test.YtgopmebjbkdfgaaGreatDoorFm03
set_option maxRecDepth 1000000
set_option maxHeartbeats 64000000
set_option linter.unusedVariables false
set_option linter.unusedSimpArgs false
set_option linter.constructorNameAsVariable false
namespace Go.Tw
def Q5a:List Bool -> Nat
 | []=>0
 | b :: l=>b.toNat + 2 * Q5a l
theorem Q5g:∀ (l:List Bool) (i:Nat),(Q5a l).testBit i = bx l i
 | [],i=>by simp [Q5a,bx]
 | b :: l,0=>by
   rw [Q5a,Nat.testBit_zero];cases b <;> simp [bx] <;> omega
 | b :: l,i + 1=>by
   rw [Q5a,Nat.testBit_succ,show (b.toNat + 2 * Q5a l) / 2 = Q5a l from by cases b <;> simp <;> omega,Q5g l i]
   simp [bx]
theorem Y5z:∀ l:List Bool,Q5a l < 2 ^ l.length
 | []=>by simp [Q5a]
 | b :: l=>by
   have:=Y5z l;rw [Q5a,List.length_cons,Nat.pow_succ];cases b <;> simp <;> omega
theorem X5t (n i:Nat):(2 ^ n).testBit i = decide (i = n):=by
 rw [Nat.testBit_two_pow]; by_cases h:n = i
 . subst h; simp
 . have h2:¬ i = n:=fun e=>h e.symm
   simp [h,h2]
theorem Y9l (l m:List Bool) (i:Nat):bx (l ++ m) i = if i < l.length then bx l i else bx m (i - l.length):=by
 unfold bx
 split
 . rename_i h; simp [List.getD_eq_getElem?_getD,List.getElem?_append_left h]
 . rename_i h; simp [List.getD_eq_getElem?_getD,List.getElem?_append_right (by omega:l.length <= i)]
theorem Y2m {l:List Bool} {i:Nat} (h:l.length <= i):bx l i = false:=by simp [bx,h]
theorem Y8k (l:List Bool) (b:Bool):Q5a (l ++ [b]) = if b then Q5a l ||| 2 ^ l.length else Q5a l:=by
 apply Nat.eq_of_testBit_eq
 intro i;rw [Q5g,Y9l]
 by_cases h:i < l.length
 . rw [if_pos h]
   cases b with
   | false=>simp only [Bool.false_eq_true,if_false]; rw [Q5g]
   | true=>simp only [if_true]; rw [Nat.testBit_or,X5t,Q5g,decide_eq_false (by omega:¬ i = l.length),Bool.or_false]
 . rw [if_neg h]
   cases b with
   | false => simp only [Bool.false_eq_true, if_false]; rw [Q5g, Y2m (l := l) (by omega)]; rcases Nat.lt_or_ge (i - l.length) 1 with h' | h'
              . rw [show i - l.length = 0 from by omega]; rfl
              . exact Y2m (by simpa using h')
   | true =>
     simp only [if_true];rw [Nat.testBit_or,X5t,Q5g,Y2m (l:=l) (by omega),Bool.false_or]
     by_cases h':i = l.length
     . subst h'; simp [bx]
     . rw [decide_eq_false h']; exact Y2m (by simp; omega)
def Z7v (a:Nat) (x:Int):Nat:=a ||| 2 ^ x.toNat
def X5u (a:Nat) (l:List Int):Nat:=l.foldl Z7v a
def Q1r (l:List Int):Nat:=X5u 0 l
theorem X1t (a:Nat) (x:Int) (l:List Int):X5u a (x :: l) = X5u (Z7v a x) l:=rfl
theorem X7t:∀ (l:List Int) (a i:Nat),(∀ x ∈ l,0 <= x) -> (X5u a l).testBit i = (a.testBit i || has l i)
 | [],a,i,_=>by simp [X5u,has]
 | x :: l,a,i,h=>by
   rw [X1t,X7t l _ i (fun y hy=>h y (List.mem_cons_of_mem _ hy)),Z7v,Nat.testBit_or,X5t,X5d,Bool.or_assoc];have h0:=h x (List.mem_cons_self ..)
   by_cases e:x = (i:Int)
   . subst e; simp
   . have e1:¬ i = x.toNat:=by omega
     rw [decide_eq_false e1,beq_false_of_ne e]
theorem X3l {l:List Int} (h:∀ x ∈ l,0 <= x) (i:Nat):(Q1r l).testBit i = has l i:=by
 unfold Q1r; rw [X7t l 0 i h]; simp
theorem Y2f {n:Nat}:∀ (l:List Int) (a:Nat),a < 2 ^ n -> (∀ x ∈ l,x < (n:Int)) -> (0 < n) -> X5u a l < 2 ^ n
 | [],_,h,_,_=>h
 | x :: l,a,h,hx,hn=>by
   rw [X1t];refine Y2f l _ (Nat.or_lt_two_pow h (Nat.pow_lt_pow_right (by omega) ?_)) (fun y hy=>hx y (List.mem_cons_of_mem _ hy)) hn
   have:=hx x (List.mem_cons_self ..);omega
theorem X0h {n:Nat} {l:List Int} (hn:0 < n) (h:∀ x ∈ l,x < (n:Int)):Q1r l < 2 ^ n:=Y2f l 0 (Nat.two_pow_pos n) h hn
def Q2v (a b:Nat):Nat:=a ^^^ (a &&& b)
theorem Q4u (a b i:Nat):(Q2v a b).testBit i = (a.testBit i && !b.testBit i):=by
 unfold Q2v;rw [Nat.testBit_xor,Nat.testBit_and];cases a.testBit i <;> cases b.testBit i <;> rfl
theorem Q7r {a n:Nat} (b:Nat) (h:a < 2 ^ n):Q2v a b < 2 ^ n:=Nat.xor_lt_two_pow h (Nat.lt_of_le_of_lt Nat.and_le_left h)
theorem Q6r (n:Int) (h0:0 <= n) (h1:n < 2 ^ 62):IntKind.i64.wrap n = n:=by rw [IntKind.wrap_i64]; omega
theorem J0n {a b:Nat} (ha:a < 2 ^ 62) (hb:b < 2 ^ 62):bits .or .i64 (a:Int) (b:Int) = ((a ||| b:Nat):Int):=(bits_nat .i64 62 (by decide) Q6r a b ha hb).2
theorem Z4u {a b:Nat} (ha:a < 2 ^ 62) (hb:b < 2 ^ 62):bits .and .i64 (a:Int) (b:Int) = ((a &&& b:Nat):Int):=(bits_nat .i64 62 (by decide) Q6r a b ha hb).1
theorem J0b (s i:Nat):s.testBit i = decide (s / 2 ^ i % 2 = 1):=by rw [Nat.testBit_eq_decide_div_mod_eq]
end Go.Tw
namespace Go.Proofs
open Go.RowKit Go.Tw Go.Flow
def Q0m (b:Bool) (e:Int):Int:=if b then e else 0
theorem Q4w (w:World) (b:Bool) (x:Int) :
    Calls Tryz.prog 50 #[.bool b,.int .i64 x] w fun e w'=>e = .returned (.int .i64 (Q0m b x)) /\ w = w':=by
 cases b <;>
 . go_enter Tryz.func50,Tryz.ntmps50
   go_wp2;go_ret;exact ⟨rfl,rfl⟩
theorem first_any (w:World) (v:Value) (l:List Int) (hv:Q0f w v l) :
    Calls Tryz.prog 48 #[v] w fun e w'=>e = .returned (.int .i64 (Q0g l)) /\ w = w':=by
 obtain ⟨A,cap,rfl,hl,hcap,hc⟩:=hv.opened;clear hv;go_enter Tryz.func48,Tryz.ntmps48;go_wp2
 go_loop [7] (fun i=>∃ k:Nat,k <= l.length /\ i = .int .i64 k /\ Q0g (l.drop k) = Q0g l) (fun i=>l.length - (intOf i).toNat)
 case atStart=>exact ⟨0,Nat.zero_le _,rfl,rfl⟩
 case round =>
  obtain ⟨k,hk,rfl,hr⟩:=hrel;have HR:=Lib.hid hr; clear hr
  by_cases hlt:k < l.length
  . obtain ⟨b,off,rfl,hcell⟩:=hc k hlt
    clear hc
    by_cases hx:ix l k = 0
    . have HX:=Lib.hid hx
      have hx1:(ix l k != 0) = false:=by simp [hx]
      clear hx;go_wp2;go_round
      case rel=>exact ⟨k + 1,by omega,by go_num,by rw [<- HR.out,Q3s hlt,Q0g,if_pos HX.out]⟩
      case measure=>simp [intOf]; omega
    . have hx1:(ix l k != 0) = true:=by simp [hx]
      have HX:=Lib.hid hx; clear hx;go_wp2;go_ret;exact ⟨Q0z (by rw [<- HR.out,Q3s hlt,Q0g,if_neg HX.out]),rfl⟩
  . clear hc
    go_wp2;go_ret;exact ⟨Q0z (by rw [<- HR.out,List.drop_eq_nil_of_le (by omega)]; rfl),rfl⟩
theorem X0n (w:World) (x a b:Int) :
    Calls Tryz.prog 102 #[.int .i64 x,.int .i64 a,.int .i64 b] w fun e w'=>e = .returned (.int .i64 (Q0q x a b)) /\ w = w':=by
 unfold Q0q
 by_cases h1:x < a
 . rw [if_pos (.inl h1)]
   go_enter Tryz.func102,Tryz.ntmps102;go_wp2;go_ret;exact ⟨rfl,rfl⟩
 . by_cases h2:b < x
   . rw [if_pos (.inr h2)]
     go_enter Tryz.func102,Tryz.ntmps102;go_wp2;go_ret;exact ⟨rfl,rfl⟩
   . rw [if_neg (by omega)]
     go_enter Tryz.func102,Tryz.ntmps102;go_wp2;go_ret;exact ⟨rfl,rfl⟩
theorem Q5q (w:World) (v:Value) (l:List Int) (n:Int) (hv:Q0f w v l) :
    Calls Tryz.prog 105 #[v,.int .i64 n] w fun e w'=>e = .returned (.int .i64 (Q1s l n)) /\ Ext w w':=by
 obtain ⟨A,cap,rfl,hl,hcap,hc⟩:=hv.opened;clear hv;go_enter Tryz.func105,Tryz.ntmps105;go_wp2
 go_loop [10] (fun i=>∃ k:Nat,k <= l.length /\ i = .int .i64 k /\ Z3d (l.drop k) n = Z3d l n) (fun i=>l.length - (intOf i).toNat)
 case atStart=>exact ⟨0,Nat.zero_le _,rfl,rfl⟩
 case round =>
  obtain ⟨k,hk,rfl,hr⟩:=hrel;have HR:=Lib.hid hr; clear hr
  by_cases hlt:k < l.length
  . obtain ⟨b,off,rfl,hcell⟩:=hc k hlt
    clear hc
    by_cases h0:ix l k < 0
    . have HO:Hid (out1 (ix l k) n = true):=by unfold out1; exact decide_eq_true (.inl h0)
      go_wp2;go_ret;exact ⟨Q0z (by unfold Q1s; rw [<- HR.out,Q3s hlt,Q9b,HO.out]; rfl),Ext.refl _⟩
    . by_cases h1:n <= ix l k
      . have HO:Hid (out1 (ix l k) n = true):=by unfold out1; exact decide_eq_true (.inr h1)
        go_wp2;go_ret;exact ⟨Q0z (by unfold Q1s; rw [<- HR.out,Q3s hlt,Q9b,HO.out]; rfl),Ext.refl _⟩
      . have HO:Hid (out1 (ix l k) n = false):=by unfold out1; exact decide_eq_false (by omega)
        go_wp2;go_round
        case rel=>exact ⟨k + 1,by omega,by go_num,by rw [<- HR.out,Q3s hlt,Q9b,HO.out,Bool.false_or]⟩
        case measure=>simp [intOf]; omega
  . have HO:Hid (Z3d l n = false):=by
     have:=HR.out;rw [List.drop_eq_nil_of_le (by omega)] at this
     exact this.symm
    clear HR;go_wp2
    go_loopw [7] (fun i wr=>∃ k:Nat,(k + 1 <= l.length ∨ k = 0) /\ i = .int .i64 (k + 1:Nat) /\ X8j (l.drop k) = X8j l /\ Ext w wr) (fun i _=>l.length - (intOf i).toNat)
    case atStart=>exact ⟨0,.inr rfl,rfl,rfl,Ext.refl _⟩
    case round =>
     obtain ⟨m,hm,rfl,hr,hx⟩:=hrel;have HR:=Lib.hid hr; clear hr
     by_cases hlm:m + 1 < l.length
     . obtain ⟨b,off,rfl,hcell⟩:=hc m (by omega)
       obtain ⟨b',off',hA,hcell'⟩:=hc (m + 1) hlm;cases hA;clear hc;replace hcell:=hx.cell hcell;replace hcell':=hx.cell hcell';have i1:(0:Int) <= ((m + 1:Nat):Int):=by omega
       have i2:((m + 1:Nat):Int) < l.length:=by omega
       have i3:(0:Int) <= ((m + 1:Nat):Int) - 1:=by omega
       have i4:((m + 1:Nat):Int) - 1 < l.length:=by omega
       have i5:(((m + 1:Nat):Int) - 1).toNat = m:=by omega
       by_cases ha:ix l m < ix l (m + 1)
       . have HA:Hid (decide (ix l m < ix l (m + 1)) = true):=by exact decide_eq_true ha
         go_wp2
         go_quiet (fail)
         all_goals go_wp2
         go_roundw
         case rel=>exact ⟨m + 1,by omega,by go_num,by rw [<- HR.out,X5a hlm,HA.out,Bool.true_and],hx.drewN _⟩
         case measure=>simp [intOf]; omega
       . have HA:Hid (decide (ix l m < ix l (m + 1)) = false):=by exact decide_eq_false ha
         have ha':ix l (m + 1) <= ix l m:=by omega
         go_wp2
         go_quiet (fail)
         all_goals go_wp2
         go_ret;exact ⟨Q0z (by unfold Q1s; rw [HO.out,<- HR.out,X5a hlm,HA.out,Bool.false_and]; rfl),hx.drewN _⟩
     . clear hc
       have i2:(l.length:Int) <= ((m + 1:Nat):Int):=by omega
       go_wp2;go_ret;exact ⟨Q0z (by unfold Q1s; rw [HO.out,<- HR.out,Z2c (by omega)]; rfl),hx⟩
end Go.Proofs
namespace Go.Proofs
open Go.RowKit Go.Tw Go.Flow
def Q1v (first:Bool):List UInt8 -> Bool
 | []=>true
 | c :: l=>(Q2o c || (!first && Q4x c)) && Q1v false l
theorem X4o:∀ l:List UInt8,Q1v false l = l.all fun c=>Q2o c || Q4x c
 | []=>rfl
 | c :: l=>by simp [Q1v,X4o l]
theorem Q2l (s:ByteArray):nameB s = (Q1v true s.data.toList && (decide (s.data.toList ≠ []) && decide (s.data.toList.length <= 24))):=by
 unfold nameB;cases s.data.toList with
 | nil=>rfl
 | cons c l =>
   simp only [Q1v,X4o,Bool.not_true,Bool.false_and,Bool.or_false,List.length_cons];rw [show decide (c :: l ≠ []) = true from by simp,Bool.true_and]
   congr 1
theorem Y7a (s:ByteArray) (pos:Nat) (h:pos < s.size):s.data.toList.drop pos = s[pos]'h :: s.data.toList.drop (pos + 1):=by
 have h':pos < s.data.toList.length:=by simpa using h
 rw [List.drop_eq_getElem_cons h'];rfl
theorem X8e (c:UInt8):Q2o c = (decide (97 <= c.toNat /\ c.toNat <= 122) || decide (65 <= c.toNat /\ c.toNat <= 90)):=by
 unfold Q2o;simp only [UInt8.le_iff_toNat_le];simp
theorem Y1k (c:UInt8):Q4x c = (decide (c.toNat = 95) || decide (48 <= c.toNat /\ c.toNat <= 57)):=by
 unfold Q4x;simp only [UInt8.le_iff_toNat_le];rw [show (c == 95) = decide (c.toNat = 95) from by rw [show (c == 95) = decide (c = 95) from rfl]; exact decide_eq_decide.2 ⟨fun h=>by subst h; rfl,fun h=>UInt8.toNat_inj.1 h⟩]
 simp
theorem Z7z (s:ByteArray) (pos:Nat) (h:pos < s.size):∃ n d,Utf8.decode s pos = (n,d) /\ 1 <= d /\ (n < 128 -> n = (s[pos]'h).toNat /\ d = 1) /\ (128 <= n -> 128 <= (s[pos]'h).toNat):=by
 by_cases ha:(s[pos]'h).toNat < 128
 . exact ⟨_,_,decode_ascii s pos h ha,Nat.le_refl _,fun _=>⟨rfl,rfl⟩,fun h'=>h'⟩
 . have:=decode_high s pos h (by omega)
   obtain ⟨n,d,hnd⟩:∃ n d,Utf8.decode s pos = (n,d):=⟨_,_,rfl⟩;rw [hnd] at this;exact ⟨n,d,hnd,this.2,fun h'=>by have:=this.1; omega,fun _=>by omega⟩
theorem Y6r {s:ByteArray} (h:s.toList = []):s.data.toList = []:=by rw [toList_nil_iff_emptyBytes] at h; subst h; rfl
theorem Y9z {s:ByteArray} (h:¬ s.toList = []):s.data.toList ≠ []:=fun e=>h (by
 rw [toList_nil_iff_emptyBytes];obtain ⟨⟨l⟩⟩:=s;simp only at e;subst e; rfl)
theorem Y7l (w:World) (s:ByteArray) (hs:Short s) :
    Calls Tryz.prog 104 #[.string s] w fun e w'=>e = .returned (.bool (nameB s)) /\ Ext w w':=by
 unfold Short at hs;go_enter Tryz.func104,Tryz.ntmps104;go_wp2
 go_loopw [9] (fun _ w'=>∃ pos:Nat,w' = w.iter s pos /\ Q1v (pos == 0) (s.data.toList.drop pos) = Q1v true s.data.toList) (fun _ w'=>s.size - w'.iterPos w.heap.size)
 case atStart=>exact ⟨0,rfl,rfl⟩
 case round =>
  obtain ⟨pos,rfl,hc⟩:=hrel;have HC:=Lib.hid hc; clear hc
  by_cases hp:pos < s.size
  . obtain ⟨n,d,hd,hd1,hn1,hn2⟩:=Z7z s pos hp
    have hnx:∀ ty,(Instr.next (.pointer (some ⟨w.heap.size,0,none⟩)) true ty).run Tryz.prog (w.iter s pos) = .ok (.tuple #[.bool true,.int .i64 pos,.int .i32 n]) (w.iter s (pos + d)):=fun ty=>by
     rw [run_next_any w s pos ty hp,hd]
    have HB:=Lib.hid (Y7a s pos hp);have HL:=Lib.hid (X8e (s[pos]'hp));have HO:=Lib.hid (Y1k (s[pos]'hp));obtain ⟨c,hcc⟩:∃ c,s[pos]'hp = c:=⟨_,rfl⟩;rw [hcc] at hn1 hn2 HB HL HO;have HN1:=Lib.hid hn1;have HN2:=Lib.hid hn2;clear hcc hd hn1 hn2;have hcl:(65 <= n /\ n <= 90) ∨ (97 <= n /\ n <= 122) ∨ (48 <= n /\ n <= 57) ∨ n = 95 ∨ n < 48 ∨ (58 <= n /\ n < 65) ∨ (91 <= n /\ n < 97 /\ n ≠ 95) ∨ 123 <= n:=by omega
    obtain ⟨N,hN⟩:∃ N:Int,(n:Int) = N:=⟨_,rfl⟩;rw [hN] at hnx
    rcases hcl with hcl | hcl | hcl | hcl | hcl | hcl | hcl | hcl
    . have f0:65 <= N:=by omega
      have f1:N <= 90:=by omega
      have HX:Hid (Q2o c = true):=by
       exact (by rw [HL.out,<- (HN1.out (by omega)).1]; simp; omega:Q2o c = true)
      have HD:Hid (d = 1):=by exact (HN1.out (by omega)).2
      clear hcl hN;go_wp2;go_roundw
      case rel=>exact ⟨pos + d,rfl,by rw [<- HC.out,HB.out,HD.out]; simp [Q1v,HX.out]⟩
      case measure=>simp; omega
    . have f0:65 <= N:=by omega
      have f1:¬ N <= 90:=by omega
      have f2:97 <= N:=by omega
      have f3:N <= 122:=by omega
      have HX:Hid (Q2o c = true):=by
       exact (by rw [HL.out,<- (HN1.out (by omega)).1]; simp; omega:Q2o c = true)
      have HD:Hid (d = 1):=by exact (HN1.out (by omega)).2
      clear hcl hN;go_wp2;go_roundw
      case rel=>exact ⟨pos + d,rfl,by rw [<- HC.out,HB.out,HD.out]; simp [Q1v,HX.out]⟩
      case measure=>simp; omega
    . have f0:¬ 65 <= N:=by omega
      have f1:¬ 97 <= N:=by omega
      have f2:48 <= N:=by omega
      have f3:N <= 57:=by omega
      have HX:Hid (Q2o c = false /\ Q4x c = true):=by
       exact (by rw [HL.out,HO.out,<- (HN1.out (by omega)).1]; simp; omega:Q2o c = false /\ Q4x c = true)
      have HD:Hid (d = 1):=by exact (HN1.out (by omega)).2
      clear hcl hN
      by_cases h0:pos = 0
      . subst h0
        go_wp2;go_ret;exact ⟨Q1g (by rw [Q2l,<- HC.out,HB.out]; simp [Q1v,HX.out.1]),Ext.box _ _⟩
      . have h0':(((pos:Nat):Int) == 0) = false:=by rw [beq_eq_false_iff_ne]; omega
        have HP:=Lib.hid h0; clear h0;go_wp2;go_roundw
        case rel=>exact ⟨pos + d,rfl,by rw [<- HC.out,HB.out,HD.out]; simp [Q1v,HX.out.1,HX.out.2,HP.out]⟩
        case measure=>simp; omega
    . have f0:65 <= N:=by omega
      have f1:¬ N <= 90:=by omega
      have f2:¬ 97 <= N:=by omega
      have f3:48 <= N:=by omega
      have f4:¬ N <= 57:=by omega
      have f5:(N == 95) = true:=by rw [beq_iff_eq]; omega
      have HX:Hid (Q2o c = false /\ Q4x c = true):=by
       exact (by rw [HL.out,HO.out,<- (HN1.out (by omega)).1]; simp; omega:Q2o c = false /\ Q4x c = true)
      have HD:Hid (d = 1):=by exact (HN1.out (by omega)).2
      clear hcl hN
      by_cases h0:pos = 0
      . subst h0
        go_wp2;go_ret;exact ⟨Q1g (by rw [Q2l,<- HC.out,HB.out]; simp [Q1v,HX.out.1]),Ext.box _ _⟩
      . have h0':(((pos:Nat):Int) == 0) = false:=by rw [beq_eq_false_iff_ne]; omega
        have HP:=Lib.hid h0; clear h0;go_wp2;go_roundw
        case rel=>exact ⟨pos + d,rfl,by rw [<- HC.out,HB.out,HD.out]; simp [Q1v,HX.out.1,HX.out.2,HP.out]⟩
        case measure=>simp; omega
    . have f0:¬ 65 <= N:=by omega
      have f1:¬ 97 <= N:=by omega
      have f2:¬ 48 <= N:=by omega
      have f3:(N == 95) = false:=by rw [beq_eq_false_iff_ne]; omega
      have HX:Hid (Q2o c = false /\ Q4x c = false):=by
       exact (by
        rcases Nat.lt_or_ge n 128 with h | h
        . rw [HL.out,HO.out,<- (HN1.out h).1]; simp; omega
        . have:=HN2.out h
          rw [HL.out,HO.out]; simp; omega:Q2o c = false /\ Q4x c = false)
      clear hcl hN
      by_cases h0:pos = 0
      . subst h0
        go_wp2;go_ret;exact ⟨Q1g (by rw [Q2l,<- HC.out,HB.out]; simp [Q1v,HX.out.1]),Ext.box _ _⟩
      . have h0':(((pos:Nat):Int) == 0) = false:=by rw [beq_eq_false_iff_ne]; omega
        have HP:=Lib.hid h0; clear h0;go_wp2;go_ret;exact ⟨Q1g (by rw [Q2l,<- HC.out,HB.out]; simp [Q1v,HX.out.1,HX.out.2]),Ext.box _ _⟩
    . have f0:¬ 65 <= N:=by omega
      have f1:¬ 97 <= N:=by omega
      have f2:48 <= N:=by omega
      have f3:¬ N <= 57:=by omega
      have f4:(N == 95) = false:=by rw [beq_eq_false_iff_ne]; omega
      have HX:Hid (Q2o c = false /\ Q4x c = false):=by
       exact (by
        rcases Nat.lt_or_ge n 128 with h | h
        . rw [HL.out,HO.out,<- (HN1.out h).1]; simp; omega
        . have:=HN2.out h
          rw [HL.out,HO.out]; simp; omega:Q2o c = false /\ Q4x c = false)
      clear hcl hN
      by_cases h0:pos = 0
      . subst h0
        go_wp2;go_ret;exact ⟨Q1g (by rw [Q2l,<- HC.out,HB.out]; simp [Q1v,HX.out.1]),Ext.box _ _⟩
      . have h0':(((pos:Nat):Int) == 0) = false:=by rw [beq_eq_false_iff_ne]; omega
        have HP:=Lib.hid h0; clear h0;go_wp2;go_ret;exact ⟨Q1g (by rw [Q2l,<- HC.out,HB.out]; simp [Q1v,HX.out.1,HX.out.2]),Ext.box _ _⟩
    . have f0:65 <= N:=by omega
      have f1:¬ N <= 90:=by omega
      have f2:¬ 97 <= N:=by omega
      have f3:48 <= N:=by omega
      have f4:¬ N <= 57:=by omega
      have f5:(N == 95) = false:=by rw [beq_eq_false_iff_ne]; omega
      have HX:Hid (Q2o c = false /\ Q4x c = false):=by
       exact (by
        rcases Nat.lt_or_ge n 128 with h | h
        . rw [HL.out,HO.out,<- (HN1.out h).1]; simp; omega
        . have:=HN2.out h
          rw [HL.out,HO.out]; simp; omega:Q2o c = false /\ Q4x c = false)
      clear hcl hN
      by_cases h0:pos = 0
      . subst h0
        go_wp2;go_ret;exact ⟨Q1g (by rw [Q2l,<- HC.out,HB.out]; simp [Q1v,HX.out.1]),Ext.box _ _⟩
      . have h0':(((pos:Nat):Int) == 0) = false:=by rw [beq_eq_false_iff_ne]; omega
        have HP:=Lib.hid h0; clear h0;go_wp2;go_ret;exact ⟨Q1g (by rw [Q2l,<- HC.out,HB.out]; simp [Q1v,HX.out.1,HX.out.2]),Ext.box _ _⟩
    . have f0:65 <= N:=by omega
      have f1:¬ N <= 90:=by omega
      have f2:97 <= N:=by omega
      have f3:¬ N <= 122:=by omega
      have f4:48 <= N:=by omega
      have f5:¬ N <= 57:=by omega
      have f6:(N == 95) = false:=by rw [beq_eq_false_iff_ne]; omega
      have HX:Hid (Q2o c = false /\ Q4x c = false):=by
       exact (by
        rcases Nat.lt_or_ge n 128 with h | h
        . rw [HL.out,HO.out,<- (HN1.out h).1]; simp; omega
        . have:=HN2.out h
          rw [HL.out,HO.out]; simp; omega:Q2o c = false /\ Q4x c = false)
      clear hcl hN
      by_cases h0:pos = 0
      . subst h0
        go_wp2;go_ret;exact ⟨Q1g (by rw [Q2l,<- HC.out,HB.out]; simp [Q1v,HX.out.1]),Ext.box _ _⟩
      . have h0':(((pos:Nat):Int) == 0) = false:=by rw [beq_eq_false_iff_ne]; omega
        have HP:=Lib.hid h0; clear h0;go_wp2;go_ret;exact ⟨Q1g (by rw [Q2l,<- HC.out,HB.out]; simp [Q1v,HX.out.1,HX.out.2]),Ext.box _ _⟩
  . have hnx:∀ ty,(Instr.next (.pointer (some ⟨w.heap.size,0,none⟩)) true ty).run Tryz.prog (w.iter s pos) = _:=fun ty=>run_next_end w s pos ty hp
    have HF:Hid (Q1v true s.data.toList = true):=by
     exact (by rw [<- HC.out,List.drop_eq_nil_of_le (by simpa using hp)]; rfl:Q1v true s.data.toList = true)
    have hsz:s.data.toList.length = s.size:=by simp
    have HS:=Lib.hid hsz;clear hsz hp
    by_cases h24:(s.size:Int) <= 24
    . have H24:=Lib.hid h24
      go_wp2
      . have he:s.toList = []:=by assumption
        go_ret;exact ⟨Q1g (by rw [Q2l,HF.out,Y6r he]; rfl),Ext.box _ _⟩
      . have he:¬ s.toList = []:=by assumption
        go_ret;exact ⟨Q1g (by have:=HS.out; have:=H24.out; rw [Q2l,HF.out,Bool.true_and,decide_eq_true (Y9z he),Bool.true_and]; rw [decide_eq_true (by omega:s.data.toList.length <= 24)]; simp [he]),Ext.box _ _⟩
    . have H24:=Lib.hid h24
      go_wp2
      . have he:s.toList = []:=by assumption
        go_ret;exact ⟨Q1g (by rw [Q2l,HF.out,Y6r he]; rfl),Ext.box _ _⟩
      . have he:¬ s.toList = []:=by assumption
        go_ret;exact ⟨Q1g (by have:=HS.out; have:=H24.out; rw [Q2l,HF.out,Bool.true_and,decide_eq_true (Y9z he),Bool.true_and]; exact (decide_eq_false (by omega)).symm),Ext.box _ _⟩
end Go.Proofs
namespace Go.Proofs
open Go.RowKit Go.Tw Go.Flow
theorem Y4v {n:Nat} (h:n < 62):wrap64 (2 ^ n) = ((2 ^ n:Nat):Int):=by
 have h1:(2:Nat) ^ n < 2 ^ 62:=Nat.pow_lt_pow_right (by omega) h
 have h2:((2 ^ n:Nat):Int) = 2 ^ n:=by simp
 rw [<- h2];obtain ⟨m,hm⟩:∃ m,2 ^ n = m:=⟨_,rfl⟩;rw [hm] at h1 ⊢;unfold wrap64;omega
theorem Z0t {a n:Nat} (ha:a < 2 ^ 62) (h:n < 62):bits .or .i64 (a:Int) (wrap64 (2 ^ n)) = ((a ||| 2 ^ n:Nat):Int):=by
 rw [Y4v h,J0n ha (Nat.pow_lt_pow_right (by omega) h)]
theorem X2j (w:World) (v:Value) (l:List Int) (hv:Q0f w v l) (hb:∀ x ∈ l,0 <= x /\ x < 62) :
    Calls Tryz.prog 87 #[v] w fun e w'=>e = .returned (.int .i64 (Q1r l:Nat)) /\ w = w':=by
 obtain ⟨A,cap,rfl,hl,hcap,hc⟩:=hv.opened;have HB:=Lib.hid hb;clear hv hb;go_enter Tryz.func87,Tryz.ntmps87;go_wp2
 go_loop [3,8] (fun o i=>∃ (k a:Nat),k <= l.length /\ i = .int .i64 k /\ o = .int .i64 a /\ a < 2 ^ 62 /\ X5u a (l.drop k) = Q1r l) (fun _ i=>l.length - (intOf i).toNat)
 case atStart=>exact ⟨0,0,Nat.zero_le _,rfl,rfl,by decide,rfl⟩
 case round =>
  obtain ⟨k,a,hk,rfl,rfl,ha,hr⟩:=hrel;have HR:=Lib.hid hr; clear hr
  by_cases hlt:k < l.length
  . obtain ⟨b,off,rfl,hcell⟩:=hc k hlt
    have hb:=HB.out (ix l k) (by rw [Q6i hlt]; exact List.getElem_mem hlt)
    obtain ⟨n,hn⟩:∃ n:Nat,ix l k = (n:Int):=⟨(ix l k).toNat,by omega⟩
    have HN:=Lib.hid hn;rw [hn] at hcell;have hn2:n < 62:=by omega
    have HA:=Lib.hid ha;clear hc hb hn ha;go_wp2;go_round
    case rel=>exact ⟨k + 1,a ||| 2 ^ n,by omega,by go_num,by rw [Z0t HA.out hn2],Nat.or_lt_two_pow HA.out (Nat.pow_lt_pow_right (by omega) hn2),by rw [<- HR.out,Q3s hlt,X1t,HN.out]; rfl⟩
    case measure=>simp [intOf]; omega
  . clear hc
    go_wp2;go_ret;exact ⟨Q0z (by rw [<- HR.out,List.drop_eq_nil_of_le (by omega)]; rfl),rfl⟩
def Z2y (x y:Int):Int:=if x < y then -1 else if y < x then 1 else 0
def cmpL:List Int -> List Int -> Int
 | [],[]=>0
 | [],_ :: _=>-1
 | _ :: _,[]=>1
 | x :: l,y :: m=>if x = y then cmpL l m else Z2y x y
def Q5p (a b:List Int):Int:=if a.length = b.length then cmpL a b else (a.length:Int) - b.length
theorem Z0i {a b:List Int} {k:Nat} (ha:k < a.length) (hb:k < b.length):cmpL (a.drop k) (b.drop k) = if ix a k = ix b k then cmpL (a.drop (k + 1)) (b.drop (k + 1)) else Z2y (ix a k) (ix b k):=by
 rw [Q3s ha,Q3s hb]; rfl
theorem X8d (w:World) (x y:Int) :
    Calls Tryz.prog 168 #[.int .i64 x,.int .i64 y] w fun e w'=>e = .returned (.int .i64 (Z2y x y)) /\ w = w':=by
 unfold Z2y
 by_cases h1:x < y
 . rw [if_pos h1]
   go_enter Tryz.func168,Tryz.ntmps168;go_wp2;go_ret;exact ⟨rfl,rfl⟩
 . by_cases h2:y < x
   . rw [if_neg h1,if_pos h2]
     go_enter Tryz.func168,Tryz.ntmps168;go_wp2;go_ret;exact ⟨rfl,rfl⟩
   . rw [if_neg h1,if_neg h2]
     go_enter Tryz.func168,Tryz.ntmps168;go_wp2;go_ret;exact ⟨rfl,rfl⟩
theorem Y5g (w:World) (u v:Value) (a b:List Int) (hu:Q0f w u a) (hv:Q0f w v b) (hab:a.length = b.length) :
    Calls Tryz.prog 147 #[u,v] w fun e w'=>e = .returned (.int .i64 (cmpL a b)) /\ w = w':=by
 obtain ⟨A,ca,rfl,hla,hcapa,hca⟩:=hu.opened;obtain ⟨B,cb,rfl,hlb,hcapb,hcb⟩:=hv.opened;clear hu hv;obtain ⟨m,hma⟩:∃ m,a.length = m:=⟨_,rfl⟩;have hmb:b.length = m:=by omega
 rw [hma] at hla hcapa hca ⊢;rw [hmb] at hlb hcapb hcb ⊢;have HMA:=Lib.hid hma;have HMB:=Lib.hid hmb;clear hab hma hmb;go_enter Tryz.func147,Tryz.ntmps147;go_wp2
 go_loop [11] (fun i=>∃ k:Nat,k <= m /\ i = .int .i64 k /\ cmpL (a.drop k) (b.drop k) = cmpL a b) (fun i=>m - (intOf i).toNat)
 case atStart=>exact ⟨0,Nat.zero_le _,rfl,rfl⟩
 case round =>
  obtain ⟨k,hk,rfl,hr⟩:=hrel;have HR:=Lib.hid hr; clear hr
  by_cases hlt:k < m
  . skip
    obtain ⟨b1,off1,rfl,hc1⟩:=hca k hlt;obtain ⟨b2,off2,rfl,hc2⟩:=hcb k hlt;clear hca hcb;have HS:=Lib.hid (Z0i (a:=a) (b:=b) (k:=k) (by rw [HMA.out]; exact hlt) (by rw [HMB.out]; exact hlt))
    obtain ⟨x,hx⟩:∃ x,ix a k = x:=⟨_,rfl⟩;obtain ⟨y,hy⟩:∃ y,ix b k = y:=⟨_,rfl⟩;rw [hx,hy] at HS;rw [hx] at hc1;rw [hy] at hc2;clear hx hy
    by_cases he:x = y
    . have hz:(Z2y x y != 0) = false:=by unfold Z2y; subst he; simp
      have HE:=Lib.hid he; clear he;go_wp2_with (go_at_call 168; refine (X8d _ _ _).mono ?_; rintro e w' ⟨rfl,rfl⟩);go_round
      case rel=>exact ⟨k + 1,by omega,by go_num,by rw [<- HR.out,HS.out,if_pos HE.out]⟩
      case measure=>simp [intOf]; omega
    . have hz:(Z2y x y != 0) = true:=by
       unfold Z2y
       rcases Int.lt_or_gt_of_ne he with h | h
       . rw [if_pos h]; rfl
       . rw [if_neg (by omega),if_pos h]; rfl
      have HE:=Lib.hid he; clear he;go_wp2_with (go_at_call 168; refine (X8d _ _ _).mono ?_; rintro e w' ⟨rfl,rfl⟩);go_ret;exact ⟨Q0z (by rw [<- HR.out,HS.out,if_neg HE.out]),rfl⟩
  . clear hca hcb
    go_wp2;go_ret;exact ⟨Q0z (by rw [<- HR.out,List.drop_eq_nil_of_le (by rw [HMA.out]; omega),List.drop_eq_nil_of_le (by rw [HMB.out]; omega)]; rfl),rfl⟩
theorem Y4s (w:World) (u v:Value) (a b:List Int) (hu:Q0f w u a) (hv:Q0f w v b) :
    Calls Tryz.prog 122 #[u,v] w fun e w'=>e = .returned (.int .i64 (Q5p a b)) /\ w = w':=by
 have HU:=Lib.hid hu;have HV:=Lib.hid hv;obtain ⟨A,ca,rfl,hla,hcapa,hca⟩:=hu.opened;obtain ⟨B,cb,rfl,hlb,hcapb,hcb⟩:=hv.opened;clear hu hv hca hcb;unfold Q5p
 by_cases hab:a.length = b.length
 . rw [if_pos hab]
   have HAB:=Lib.hid hab;have hne:(((a.length:Nat):Int) != ((b.length:Nat):Int)) = false:=by simp [hab]
   clear hab;go_enter Tryz.func122,Tryz.ntmps122;go_wp2_with (go_at_call 147; refine (Y5g _ _ _ a b HU.out HV.out HAB.out).mono ?_; rintro e w' ⟨rfl,rfl⟩);go_ret;exact ⟨rfl,rfl⟩
 . rw [if_neg hab]
   have hne:(((a.length:Nat):Int) != ((b.length:Nat):Int)) = true:=by simp; omega
   clear hab;go_enter Tryz.func122,Tryz.ntmps122;go_wp2;go_ret;exact ⟨rfl,rfl⟩
end Go.Proofs
