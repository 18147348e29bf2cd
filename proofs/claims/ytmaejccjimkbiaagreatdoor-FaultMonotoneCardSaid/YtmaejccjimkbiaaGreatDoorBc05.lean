/- Contracts: the errors of sets; sets without an element; all others. Sets of numbers as the bits of a number, and Go's operators on them: no program is in sight here. Contracts of small functions of the program: when, first, within, ascending. Contract of isName: a name by its bytes. -/
import Derived.Test.YtmaejccjimkbiaaGreatDoorBc02
import Derived.Test.YtmaejccjimkbiaaGreatDoorBc04
import Derived.Laws.BitsLemmas
set_option linter.unusedVariables false
set_option linter.unusedSimpArgs false
set_option linter.constructorNameAsVariable false
namespace Go.Proofs
open Go.RowKit Go.Tw Go.Flow
def out1 (x n:Int):Bool:=decide (x < 0 ∨ n ≤ x)
theorem outB_cons (x:Int) (l:List Int) (n:Int):outB (x :: l) n = (out1 x n || outB l n):=rfl
theorem asc_step {l:List Int} {k:Nat} (h:k + 1 < l.length):ascB (l.drop k) = (decide (ix l k < ix l (k + 1)) && ascB (l.drop (k + 1))):=by
 rw [drop_ix (show k < l.length by omega),drop_ix h]; rfl
theorem asc_end {l:List Int} {k:Nat} (h:l.length ≤ k + 1):ascB (l.drop k) = true:=by
 rcases Nat.lt_or_ge k l.length with h' | h'
 · rw [drop_ix h',List.drop_eq_nil_of_le h]; rfl
 · rw [List.drop_eq_nil_of_le h']; rfl
set_option maxHeartbeats 800000 in
theorem checkSet_any (w:World) (v:Value) (l:List Int) (n:Int) (hv:IsInts w v l) :
    Calls Tryz.prog 71 #[v,.int .i64 n] w fun e w'=>e = .returned (.int .i64 (setErr l n)) ∧ Ext w w':=by
 obtain ⟨A,cap,rfl,hl,hcap,hc⟩:=hv.opened
 clear hv
 go_enter Tryz.func71,Tryz.ntmps71
 go_wp2
 go_loop [5] (fun i=>∃ k:Nat,k ≤ l.length ∧ i = .int .i64 k ∧ outB (l.drop k) n = outB l n) (fun i=>l.length - (intOf i).toNat)
 case atStart=>exact ⟨0,Nat.zero_le _,rfl,rfl⟩
 case round =>
  obtain ⟨k,hk,rfl,hr⟩:=hrel
  have HR:=Lib.hid hr; clear hr
  by_cases hlt:k < l.length
  · obtain ⟨b,off,rfl,hcell⟩:=hc k hlt
    clear hc
    by_cases h0:ix l k < 0
    · have HO:Hid (out1 (ix l k) n = true):=by unfold out1; exact decide_eq_true (.inl h0)
      go_wp2
      go_ret
      exact ⟨ret_int (by unfold setErr; rw [← HR.out,drop_ix hlt,outB_cons,HO.out]; rfl),Ext.refl _⟩
    · by_cases h1:n ≤ ix l k
      · have HO:Hid (out1 (ix l k) n = true):=by unfold out1; exact decide_eq_true (.inr h1)
        go_wp2
        go_ret
        exact ⟨ret_int (by unfold setErr; rw [← HR.out,drop_ix hlt,outB_cons,HO.out]; rfl),Ext.refl _⟩
      · have HO:Hid (out1 (ix l k) n = false):=by unfold out1; exact decide_eq_false (by omega)
        go_wp2
        go_round
        case rel=>exact ⟨k + 1,by omega,by go_num,by rw [← HR.out,drop_ix hlt,outB_cons,HO.out,Bool.false_or]⟩
        case measure=>simp [intOf]; omega
  · have HO:Hid (outB l n = false):=by
     have:=HR.out
     rw [List.drop_eq_nil_of_le (by omega)] at this
     exact this.symm
    clear HR
    go_wp2
    go_loopw [6] (fun i wr=>∃ k:Nat,(k + 1 ≤ l.length ∨ k = 0) ∧ i = .int .i64 (k + 1:Nat) ∧ ascB (l.drop k) = ascB l ∧ Ext w wr) (fun i _=>l.length - (intOf i).toNat)
    case atStart=>exact ⟨0,.inr rfl,rfl,rfl,Ext.refl _⟩
    case round =>
     obtain ⟨m,hm,rfl,hr,hx⟩:=hrel
     have HR:=Lib.hid hr; clear hr
     by_cases hlm:m + 1 < l.length
     · obtain ⟨b,off,rfl,hcell⟩:=hc m (by omega)
       obtain ⟨b',off',hA,hcell'⟩:=hc (m + 1) hlm
       cases hA
       clear hc
       replace hcell:=hx.cell hcell
       replace hcell':=hx.cell hcell'
       have i1:(0:Int) ≤ ((m + 1:Nat):Int):=by omega
       have i2:((m + 1:Nat):Int) < l.length:=by omega
       have i3:(0:Int) ≤ ((m + 1:Nat):Int) - 1:=by omega
       have i4:((m + 1:Nat):Int) - 1 < l.length:=by omega
       have i5:(((m + 1:Nat):Int) - 1).toNat = m:=by omega
       by_cases ha:ix l m < ix l (m + 1)
       · have HA:Hid (decide (ix l m < ix l (m + 1)) = true):=by exact decide_eq_true ha
         go_wp2
         go_quiet (fail)
         all_goals go_wp2
         go_roundw
         case rel=>exact ⟨m + 1,by omega,by go_num,by rw [← HR.out,asc_step hlm,HA.out,Bool.true_and],hx.drewN _⟩
         case measure=>simp [intOf]; omega
       · have HA:Hid (decide (ix l m < ix l (m + 1)) = false):=by exact decide_eq_false ha
         have ha':ix l (m + 1) ≤ ix l m:=by omega
         go_wp2
         go_quiet (fail)
         all_goals go_wp2
         go_ret
         exact ⟨ret_int (by unfold setErr; rw [HO.out,← HR.out,asc_step hlm,HA.out,Bool.false_and]; rfl),hx.drewN _⟩
     · clear hc
       have i2:(l.length:Int) ≤ ((m + 1:Nat):Int):=by omega
       go_wp2
       go_ret
       exact ⟨ret_int (by unfold setErr; rw [HO.out,← HR.out,asc_end (by omega)]; rfl),hx⟩
theorem checkList_any (w:World) (v:Value) (l:List Int) (n:Int) (hv:IsInts w v l) :
    Calls Tryz.prog 93 #[v,.int .i64 n] w fun e w'=>e = .returned (.int .i64 (listErr l n)) ∧ Ext w w':=by
 have HV:=Lib.hid hv
 obtain ⟨A,cap,rfl,hl,hcap,hc⟩:=hv.opened
 clear hv hc
 by_cases h0:l.length = 0
 · have h1:(((l.length:Nat):Int) == 0) = true:=by rw [beq_iff_eq]; omega
   have H0:=Lib.hid h0; clear h0
   go_enter Tryz.func93,Tryz.ntmps93
   go_wp2
   go_ret
   exact ⟨ret_int (by unfold listErr; rw [if_pos (List.length_eq_zero_iff.1 H0.out)]),Ext.refl _⟩
 · have h1:(((l.length:Nat):Int) == 0) = false:=by rw [beq_eq_false_iff_ne]; omega
   have H0:=Lib.hid h0; clear h0
   go_enter Tryz.func93,Tryz.ntmps93
   go_wp2_with (go_at_call 71; refine (checkSet_any _ _ l n HV.out).mono ?_; rintro e w' ⟨rfl,hx⟩)
   go_ret
   exact ⟨ret_int (by unfold listErr; rw [if_neg (fun h=>H0.out (by rw [h]; rfl))]),hx⟩
end Go.Proofs
namespace Go.Tw
def packB:List Bool → Nat
 | []=>0
 | b :: l=>b.toNat + 2 * packB l
theorem packB_bit:∀ (l:List Bool) (i:Nat),(packB l).testBit i = bx l i
 | [],i=>by simp [packB,bx]
 | b :: l,0=>by
   rw [packB,Nat.testBit_zero]
   cases b <;> simp [bx] <;> omega
 | b :: l,i + 1=>by
   rw [packB,Nat.testBit_succ,show (b.toNat + 2 * packB l) / 2 = packB l from by cases b <;> simp <;> omega,packB_bit l i]
   simp [bx]
theorem packB_lt:∀ l:List Bool,packB l < 2 ^ l.length
 | []=>by simp [packB]
 | b :: l=>by
   have:=packB_lt l
   rw [packB,List.length_cons,Nat.pow_succ]
   cases b <;> simp <;> omega
theorem bit_pow (n i:Nat):(2 ^ n).testBit i = decide (i = n):=by
 rw [Nat.testBit_two_pow]; by_cases h:n = i
 · subst h; simp
 · have h2:¬ i = n:=fun e=>h e.symm
   simp [h,h2]
theorem bx_append (l m:List Bool) (i:Nat):bx (l ++ m) i = if i < l.length then bx l i else bx m (i - l.length):=by
 unfold bx
 split
 · rename_i h; simp [List.getD_eq_getElem?_getD,List.getElem?_append_left h]
 · rename_i h; simp [List.getD_eq_getElem?_getD,List.getElem?_append_right (by omega:l.length ≤ i)]
theorem bx_out {l:List Bool} {i:Nat} (h:l.length ≤ i):bx l i = false:=by simp [bx,h]
theorem packB_snoc (l:List Bool) (b:Bool):packB (l ++ [b]) = if b then packB l ||| 2 ^ l.length else packB l:=by
 apply Nat.eq_of_testBit_eq
 intro i
 rw [packB_bit,bx_append]
 by_cases h:i < l.length
 · rw [if_pos h]
   cases b with
   | false=>simp only [Bool.false_eq_true,if_false]; rw [packB_bit]
   | true=>simp only [if_true]; rw [Nat.testBit_or,bit_pow,packB_bit,decide_eq_false (by omega:¬ i = l.length),Bool.or_false]
 · rw [if_neg h]
   cases b with
   | false => simp only [Bool.false_eq_true, if_false]; rw [packB_bit, bx_out (l := l) (by omega)]; rcases Nat.lt_or_ge (i - l.length) 1 with h' | h'
              · rw [show i - l.length = 0 from by omega]; rfl
              · exact bx_out (by simpa using h')
   | true =>
     simp only [if_true]
     rw [Nat.testBit_or,bit_pow,packB_bit,bx_out (l:=l) (by omega),Bool.false_or]
     by_cases h':i = l.length
     · subst h'; simp [bx]
     · rw [decide_eq_false h']; exact bx_out (by simp; omega)
def orBit (a:Nat) (x:Int):Nat:=a ||| 2 ^ x.toNat
def orBits (a:Nat) (l:List Int):Nat:=l.foldl orBit a
def maskOf (l:List Int):Nat:=orBits 0 l
theorem orBits_cons (a:Nat) (x:Int) (l:List Int):orBits a (x :: l) = orBits (orBit a x) l:=rfl
theorem orBits_bit:∀ (l:List Int) (a i:Nat),(∀ x ∈ l,0 ≤ x) → (orBits a l).testBit i = (a.testBit i || has l i)
 | [],a,i,_=>by simp [orBits,has]
 | x :: l,a,i,h=>by
   rw [orBits_cons,orBits_bit l _ i (fun y hy=>h y (List.mem_cons_of_mem _ hy)),orBit,Nat.testBit_or,bit_pow,has_cons,Bool.or_assoc]
   have h0:=h x (List.mem_cons_self ..)
   by_cases e:x = (i:Int)
   · subst e; simp
   · have e1:¬ i = x.toNat:=by omega
     rw [decide_eq_false e1,beq_false_of_ne e]
theorem maskOf_bit {l:List Int} (h:∀ x ∈ l,0 ≤ x) (i:Nat):(maskOf l).testBit i = has l i:=by
 unfold maskOf; rw [orBits_bit l 0 i h]; simp
theorem orBits_lt {n:Nat}:∀ (l:List Int) (a:Nat),a < 2 ^ n → (∀ x ∈ l,x < (n:Int)) → (0 < n) → orBits a l < 2 ^ n
 | [],_,h,_,_=>h
 | x :: l,a,h,hx,hn=>by
   rw [orBits_cons]
   refine orBits_lt l _ (Nat.or_lt_two_pow h (Nat.pow_lt_pow_right (by omega) ?_)) (fun y hy=>hx y (List.mem_cons_of_mem _ hy)) hn
   have:=hx x (List.mem_cons_self ..)
   omega
theorem maskOf_lt {n:Nat} {l:List Int} (hn:0 < n) (h:∀ x ∈ l,x < (n:Int)):maskOf l < 2 ^ n:=orBits_lt l 0 (Nat.two_pow_pos n) h hn
def clearB (a b:Nat):Nat:=a ^^^ (a &&& b)
theorem clearB_bit (a b i:Nat):(clearB a b).testBit i = (a.testBit i && !b.testBit i):=by
 unfold clearB
 rw [Nat.testBit_xor,Nat.testBit_and]
 cases a.testBit i <;> cases b.testBit i <;> rfl
theorem clearB_lt {a n:Nat} (b:Nat) (h:a < 2 ^ n):clearB a b < 2 ^ n:=Nat.xor_lt_two_pow h (Nat.lt_of_le_of_lt Nat.and_le_left h)
theorem wrap62 (n:Int) (h0:0 ≤ n) (h1:n < 2 ^ 62):IntKind.i64.wrap n = n:=by rw [IntKind.wrap_i64]; omega
theorem or64 {a b:Nat} (ha:a < 2 ^ 62) (hb:b < 2 ^ 62):bits .or .i64 (a:Int) (b:Int) = ((a ||| b:Nat):Int):=(bits_nat .i64 62 (by decide) wrap62 a b ha hb).2
theorem and64 {a b:Nat} (ha:a < 2 ^ 62) (hb:b < 2 ^ 62):bits .and .i64 (a:Int) (b:Int) = ((a &&& b:Nat):Int):=(bits_nat .i64 62 (by decide) wrap62 a b ha hb).1
theorem bitAt (s i:Nat):s.testBit i = decide (s / 2 ^ i % 2 = 1):=by rw [Nat.testBit_eq_decide_div_mod_eq]
end Go.Tw
namespace Go.Proofs
open Go.RowKit Go.Tw Go.Flow
def whenI (b:Bool) (e:Int):Int:=if b then e else 0
theorem when_any (w:World) (b:Bool) (x:Int) :
    Calls Tryz.prog 84 #[.bool b,.int .i64 x] w fun e w'=>e = .returned (.int .i64 (whenI b x)) ∧ w = w':=by
 cases b <;>
 · go_enter Tryz.func84,Tryz.ntmps84
   go_wp2
   go_ret
   exact ⟨rfl,rfl⟩
set_option maxHeartbeats 400000 in
theorem first_any (w:World) (v:Value) (l:List Int) (hv:IsInts w v l) :
    Calls Tryz.prog 74 #[v] w fun e w'=>e = .returned (.int .i64 (firstErr l)) ∧ w = w':=by
 obtain ⟨A,cap,rfl,hl,hcap,hc⟩:=hv.opened
 clear hv
 go_enter Tryz.func74,Tryz.ntmps74
 go_wp2
 go_loop [7] (fun i=>∃ k:Nat,k ≤ l.length ∧ i = .int .i64 k ∧ firstErr (l.drop k) = firstErr l) (fun i=>l.length - (intOf i).toNat)
 case atStart=>exact ⟨0,Nat.zero_le _,rfl,rfl⟩
 case round =>
  obtain ⟨k,hk,rfl,hr⟩:=hrel
  have HR:=Lib.hid hr; clear hr
  by_cases hlt:k < l.length
  · obtain ⟨b,off,rfl,hcell⟩:=hc k hlt
    clear hc
    by_cases hx:ix l k = 0
    · have HX:=Lib.hid hx
      have hx1:(ix l k != 0) = false:=by simp [hx]
      clear hx
      go_wp2
      go_round
      case rel=>exact ⟨k + 1,by omega,by go_num,by rw [← HR.out,drop_ix hlt,firstErr,if_pos HX.out]⟩
      case measure=>simp [intOf]; omega
    · have hx1:(ix l k != 0) = true:=by simp [hx]
      have HX:=Lib.hid hx; clear hx
      go_wp2
      go_ret
      exact ⟨ret_int (by rw [← HR.out,drop_ix hlt,firstErr,if_neg HX.out]),rfl⟩
  · clear hc
    go_wp2
    go_ret
    exact ⟨ret_int (by rw [← HR.out,List.drop_eq_nil_of_le (by omega)]; rfl),rfl⟩
theorem within_any (w:World) (x a b:Int) :
    Calls Tryz.prog 89 #[.int .i64 x,.int .i64 a,.int .i64 b] w fun e w'=>e = .returned (.int .i64 (rangeErr x a b)) ∧ w = w':=by
 unfold rangeErr
 by_cases h1:x < a
 · rw [if_pos (.inl h1)]
   go_enter Tryz.func89,Tryz.ntmps89
   go_wp2
   go_ret
   exact ⟨rfl,rfl⟩
 · by_cases h2:b < x
   · rw [if_pos (.inr h2)]
     go_enter Tryz.func89,Tryz.ntmps89
     go_wp2
     go_ret
     exact ⟨rfl,rfl⟩
   · rw [if_neg (by omega)]
     go_enter Tryz.func89,Tryz.ntmps89
     go_wp2
     go_ret
     exact ⟨rfl,rfl⟩
set_option maxHeartbeats 800000 in
theorem ascending_any (w:World) (v:Value) (l:List Int) (n:Int) (hv:IsInts w v l) :
    Calls Tryz.prog 123 #[v,.int .i64 n] w fun e w'=>e = .returned (.int .i64 (setErr l n)) ∧ Ext w w':=by
 obtain ⟨A,cap,rfl,hl,hcap,hc⟩:=hv.opened
 clear hv
 go_enter Tryz.func123,Tryz.ntmps123
 go_wp2
 go_loop [10] (fun i=>∃ k:Nat,k ≤ l.length ∧ i = .int .i64 k ∧ outB (l.drop k) n = outB l n) (fun i=>l.length - (intOf i).toNat)
 case atStart=>exact ⟨0,Nat.zero_le _,rfl,rfl⟩
 case round =>
  obtain ⟨k,hk,rfl,hr⟩:=hrel
  have HR:=Lib.hid hr; clear hr
  by_cases hlt:k < l.length
  · obtain ⟨b,off,rfl,hcell⟩:=hc k hlt
    clear hc
    by_cases h0:ix l k < 0
    · have HO:Hid (out1 (ix l k) n = true):=by unfold out1; exact decide_eq_true (.inl h0)
      go_wp2
      go_ret
      exact ⟨ret_int (by unfold setErr; rw [← HR.out,drop_ix hlt,outB_cons,HO.out]; rfl),Ext.refl _⟩
    · by_cases h1:n ≤ ix l k
      · have HO:Hid (out1 (ix l k) n = true):=by unfold out1; exact decide_eq_true (.inr h1)
        go_wp2
        go_ret
        exact ⟨ret_int (by unfold setErr; rw [← HR.out,drop_ix hlt,outB_cons,HO.out]; rfl),Ext.refl _⟩
      · have HO:Hid (out1 (ix l k) n = false):=by unfold out1; exact decide_eq_false (by omega)
        go_wp2
        go_round
        case rel=>exact ⟨k + 1,by omega,by go_num,by rw [← HR.out,drop_ix hlt,outB_cons,HO.out,Bool.false_or]⟩
        case measure=>simp [intOf]; omega
  · have HO:Hid (outB l n = false):=by
     have:=HR.out
     rw [List.drop_eq_nil_of_le (by omega)] at this
     exact this.symm
    clear HR
    go_wp2
    go_loopw [7] (fun i wr=>∃ k:Nat,(k + 1 ≤ l.length ∨ k = 0) ∧ i = .int .i64 (k + 1:Nat) ∧ ascB (l.drop k) = ascB l ∧ Ext w wr) (fun i _=>l.length - (intOf i).toNat)
    case atStart=>exact ⟨0,.inr rfl,rfl,rfl,Ext.refl _⟩
    case round =>
     obtain ⟨m,hm,rfl,hr,hx⟩:=hrel
     have HR:=Lib.hid hr; clear hr
     by_cases hlm:m + 1 < l.length
     · obtain ⟨b,off,rfl,hcell⟩:=hc m (by omega)
       obtain ⟨b',off',hA,hcell'⟩:=hc (m + 1) hlm
       cases hA
       clear hc
       replace hcell:=hx.cell hcell
       replace hcell':=hx.cell hcell'
       have i1:(0:Int) ≤ ((m + 1:Nat):Int):=by omega
       have i2:((m + 1:Nat):Int) < l.length:=by omega
       have i3:(0:Int) ≤ ((m + 1:Nat):Int) - 1:=by omega
       have i4:((m + 1:Nat):Int) - 1 < l.length:=by omega
       have i5:(((m + 1:Nat):Int) - 1).toNat = m:=by omega
       by_cases ha:ix l m < ix l (m + 1)
       · have HA:Hid (decide (ix l m < ix l (m + 1)) = true):=by exact decide_eq_true ha
         go_wp2
         go_quiet (fail)
         all_goals go_wp2
         go_roundw
         case rel=>exact ⟨m + 1,by omega,by go_num,by rw [← HR.out,asc_step hlm,HA.out,Bool.true_and],hx.drewN _⟩
         case measure=>simp [intOf]; omega
       · have HA:Hid (decide (ix l m < ix l (m + 1)) = false):=by exact decide_eq_false ha
         have ha':ix l (m + 1) ≤ ix l m:=by omega
         go_wp2
         go_quiet (fail)
         all_goals go_wp2
         go_ret
         exact ⟨ret_int (by unfold setErr; rw [HO.out,← HR.out,asc_step hlm,HA.out,Bool.false_and]; rfl),hx.drewN _⟩
     · clear hc
       have i2:(l.length:Int) ≤ ((m + 1:Nat):Int):=by omega
       go_wp2
       go_ret
       exact ⟨ret_int (by unfold setErr; rw [HO.out,← HR.out,asc_end (by omega)]; rfl),hx⟩
end Go.Proofs
namespace Go.Proofs
open Go.RowKit Go.Tw Go.Flow
def nameFrom (first:Bool):List UInt8 → Bool
 | []=>true
 | c :: l=>(letterB c || (!first && otherB c)) && nameFrom false l
theorem nameFrom_all:∀ l:List UInt8,nameFrom false l = l.all fun c=>letterB c || otherB c
 | []=>rfl
 | c :: l=>by simp [nameFrom,nameFrom_all l]
theorem nameB_from (s:ByteArray):nameB s = (nameFrom true s.data.toList && (decide (s.data.toList ≠ []) && decide (s.data.toList.length ≤ 24))):=by
 unfold nameB
 cases s.data.toList with
 | nil=>rfl
 | cons c l =>
   simp only [nameFrom,nameFrom_all,Bool.not_true,Bool.false_and,Bool.or_false,List.length_cons]
   rw [show decide (c :: l ≠ []) = true from by simp,Bool.true_and]
   congr 1
theorem nbyte_at (s:ByteArray) (pos:Nat) (h:pos < s.size):s.data.toList.drop pos = s[pos]'h :: s.data.toList.drop (pos + 1):=by
 have h':pos < s.data.toList.length:=by simpa using h
 rw [List.drop_eq_getElem_cons h']
 rfl
theorem letter_iff (c:UInt8):letterB c = (decide (97 ≤ c.toNat ∧ c.toNat ≤ 122) || decide (65 ≤ c.toNat ∧ c.toNat ≤ 90)):=by
 unfold letterB
 simp only [UInt8.le_iff_toNat_le]
 simp
theorem other_iff (c:UInt8):otherB c = (decide (c.toNat = 95) || decide (48 ≤ c.toNat ∧ c.toNat ≤ 57)):=by
 unfold otherB
 simp only [UInt8.le_iff_toNat_le]
 rw [show (c == 95) = decide (c.toNat = 95) from by rw [show (c == 95) = decide (c = 95) from rfl]; exact decide_eq_decide.2 ⟨fun h=>by subst h; rfl,fun h=>UInt8.toNat_inj.1 h⟩]
 simp
theorem rune_at (s:ByteArray) (pos:Nat) (h:pos < s.size):∃ n d,Utf8.decode s pos = (n,d) ∧ 1 ≤ d ∧ (n < 128 → n = (s[pos]'h).toNat ∧ d = 1) ∧ (128 ≤ n → 128 ≤ (s[pos]'h).toNat):=by
 by_cases ha:(s[pos]'h).toNat < 128
 · exact ⟨_,_,decode_ascii s pos h ha,Nat.le_refl _,fun _=>⟨rfl,rfl⟩,fun h'=>h'⟩
 · have:=decode_high s pos h (by omega)
   obtain ⟨n,d,hnd⟩:∃ n d,Utf8.decode s pos = (n,d):=⟨_,_,rfl⟩
   rw [hnd] at this
   exact ⟨n,d,hnd,this.2,fun h'=>by have:=this.1; omega,fun _=>by omega⟩
theorem nil_data {s:ByteArray} (h:s.toList = []):s.data.toList = []:=by rw [toList_nil_iff_emptyBytes] at h; subst h; rfl
theorem ne_data {s:ByteArray} (h:¬ s.toList = []):s.data.toList ≠ []:=fun e=>h (by
 rw [toList_nil_iff_emptyBytes]
 obtain ⟨⟨l⟩⟩:=s
 simp only at e
 subst e; rfl)
set_option maxHeartbeats 800000 in
theorem isName_any (w:World) (s:ByteArray) (hs:Short s) :
    Calls Tryz.prog 122 #[.string s] w fun e w'=>e = .returned (.bool (nameB s)) ∧ Ext w w':=by
 unfold Short at hs
 go_enter Tryz.func122,Tryz.ntmps122
 go_wp2
 go_loopw [9] (fun _ w'=>∃ pos:Nat,w' = w.iter s pos ∧ nameFrom (pos == 0) (s.data.toList.drop pos) = nameFrom true s.data.toList) (fun _ w'=>s.size - w'.iterPos w.heap.size)
 case atStart=>exact ⟨0,rfl,rfl⟩
 case round =>
  obtain ⟨pos,rfl,hc⟩:=hrel
  have HC:=Lib.hid hc; clear hc
  by_cases hp:pos < s.size
  · obtain ⟨n,d,hd,hd1,hn1,hn2⟩:=rune_at s pos hp
    have hnx:∀ ty,(Instr.next (.pointer (some ⟨w.heap.size,0,none⟩)) true ty).run Tryz.prog (w.iter s pos) = .ok (.tuple #[.bool true,.int .i64 pos,.int .i32 n]) (w.iter s (pos + d)):=fun ty=>by
     rw [run_next_any w s pos ty hp,hd]
    have HB:=Lib.hid (nbyte_at s pos hp)
    have HL:=Lib.hid (letter_iff (s[pos]'hp))
    have HO:=Lib.hid (other_iff (s[pos]'hp))
    obtain ⟨c,hcc⟩:∃ c,s[pos]'hp = c:=⟨_,rfl⟩
    rw [hcc] at hn1 hn2 HB HL HO
    have HN1:=Lib.hid hn1
    have HN2:=Lib.hid hn2
    clear hcc hd hn1 hn2
    have hcl:(65 ≤ n ∧ n ≤ 90) ∨ (97 ≤ n ∧ n ≤ 122) ∨ (48 ≤ n ∧ n ≤ 57) ∨ n = 95 ∨ n < 48 ∨ (58 ≤ n ∧ n < 65) ∨ (91 ≤ n ∧ n < 97 ∧ n ≠ 95) ∨ 123 ≤ n:=by omega
    obtain ⟨N,hN⟩:∃ N:Int,(n:Int) = N:=⟨_,rfl⟩
    rw [hN] at hnx
    rcases hcl with hcl | hcl | hcl | hcl | hcl | hcl | hcl | hcl
    · have f0:65 ≤ N:=by omega
      have f1:N ≤ 90:=by omega
      have HX:Hid (letterB c = true):=by
       exact (by rw [HL.out,← (HN1.out (by omega)).1]; simp; omega:letterB c = true)
      have HD:Hid (d = 1):=by exact (HN1.out (by omega)).2
      clear hcl hN
      go_wp2
      go_roundw
      case rel=>exact ⟨pos + d,rfl,by rw [← HC.out,HB.out,HD.out]; simp [nameFrom,HX.out]⟩
      case measure=>simp; omega
    · have f0:65 ≤ N:=by omega
      have f1:¬ N ≤ 90:=by omega
      have f2:97 ≤ N:=by omega
      have f3:N ≤ 122:=by omega
      have HX:Hid (letterB c = true):=by
       exact (by rw [HL.out,← (HN1.out (by omega)).1]; simp; omega:letterB c = true)
      have HD:Hid (d = 1):=by exact (HN1.out (by omega)).2
      clear hcl hN
      go_wp2
      go_roundw
      case rel=>exact ⟨pos + d,rfl,by rw [← HC.out,HB.out,HD.out]; simp [nameFrom,HX.out]⟩
      case measure=>simp; omega
    · have f0:¬ 65 ≤ N:=by omega
      have f1:¬ 97 ≤ N:=by omega
      have f2:48 ≤ N:=by omega
      have f3:N ≤ 57:=by omega
      have HX:Hid (letterB c = false ∧ otherB c = true):=by
       exact (by rw [HL.out,HO.out,← (HN1.out (by omega)).1]; simp; omega:letterB c = false ∧ otherB c = true)
      have HD:Hid (d = 1):=by exact (HN1.out (by omega)).2
      clear hcl hN
      by_cases h0:pos = 0
      · subst h0
        go_wp2
        go_ret
        exact ⟨ret_bool (by rw [nameB_from,← HC.out,HB.out]; simp [nameFrom,HX.out.1]),Ext.box _ _⟩
      · have h0':(((pos:Nat):Int) == 0) = false:=by rw [beq_eq_false_iff_ne]; omega
        have HP:=Lib.hid h0; clear h0
        go_wp2
        go_roundw
        case rel=>exact ⟨pos + d,rfl,by rw [← HC.out,HB.out,HD.out]; simp [nameFrom,HX.out.1,HX.out.2,HP.out]⟩
        case measure=>simp; omega
    · have f0:65 ≤ N:=by omega
      have f1:¬ N ≤ 90:=by omega
      have f2:¬ 97 ≤ N:=by omega
      have f3:48 ≤ N:=by omega
      have f4:¬ N ≤ 57:=by omega
      have f5:(N == 95) = true:=by rw [beq_iff_eq]; omega
      have HX:Hid (letterB c = false ∧ otherB c = true):=by
       exact (by rw [HL.out,HO.out,← (HN1.out (by omega)).1]; simp; omega:letterB c = false ∧ otherB c = true)
      have HD:Hid (d = 1):=by exact (HN1.out (by omega)).2
      clear hcl hN
      by_cases h0:pos = 0
      · subst h0
        go_wp2
        go_ret
        exact ⟨ret_bool (by rw [nameB_from,← HC.out,HB.out]; simp [nameFrom,HX.out.1]),Ext.box _ _⟩
      · have h0':(((pos:Nat):Int) == 0) = false:=by rw [beq_eq_false_iff_ne]; omega
        have HP:=Lib.hid h0; clear h0
        go_wp2
        go_roundw
        case rel=>exact ⟨pos + d,rfl,by rw [← HC.out,HB.out,HD.out]; simp [nameFrom,HX.out.1,HX.out.2,HP.out]⟩
        case measure=>simp; omega
    · have f0:¬ 65 ≤ N:=by omega
      have f1:¬ 97 ≤ N:=by omega
      have f2:¬ 48 ≤ N:=by omega
      have f3:(N == 95) = false:=by rw [beq_eq_false_iff_ne]; omega
      have HX:Hid (letterB c = false ∧ otherB c = false):=by
       exact (by
        rcases Nat.lt_or_ge n 128 with h | h
        · rw [HL.out,HO.out,← (HN1.out h).1]; simp; omega
        · have:=HN2.out h
          rw [HL.out,HO.out]; simp; omega:letterB c = false ∧ otherB c = false)
      clear hcl hN
      by_cases h0:pos = 0
      · subst h0
        go_wp2
        go_ret
        exact ⟨ret_bool (by rw [nameB_from,← HC.out,HB.out]; simp [nameFrom,HX.out.1]),Ext.box _ _⟩
      · have h0':(((pos:Nat):Int) == 0) = false:=by rw [beq_eq_false_iff_ne]; omega
        have HP:=Lib.hid h0; clear h0
        go_wp2
        go_ret
        exact ⟨ret_bool (by rw [nameB_from,← HC.out,HB.out]; simp [nameFrom,HX.out.1,HX.out.2]),Ext.box _ _⟩
    · have f0:¬ 65 ≤ N:=by omega
      have f1:¬ 97 ≤ N:=by omega
      have f2:48 ≤ N:=by omega
      have f3:¬ N ≤ 57:=by omega
      have f4:(N == 95) = false:=by rw [beq_eq_false_iff_ne]; omega
      have HX:Hid (letterB c = false ∧ otherB c = false):=by
       exact (by
        rcases Nat.lt_or_ge n 128 with h | h
        · rw [HL.out,HO.out,← (HN1.out h).1]; simp; omega
        · have:=HN2.out h
          rw [HL.out,HO.out]; simp; omega:letterB c = false ∧ otherB c = false)
      clear hcl hN
      by_cases h0:pos = 0
      · subst h0
        go_wp2
        go_ret
        exact ⟨ret_bool (by rw [nameB_from,← HC.out,HB.out]; simp [nameFrom,HX.out.1]),Ext.box _ _⟩
      · have h0':(((pos:Nat):Int) == 0) = false:=by rw [beq_eq_false_iff_ne]; omega
        have HP:=Lib.hid h0; clear h0
        go_wp2
        go_ret
        exact ⟨ret_bool (by rw [nameB_from,← HC.out,HB.out]; simp [nameFrom,HX.out.1,HX.out.2]),Ext.box _ _⟩
    · have f0:65 ≤ N:=by omega
      have f1:¬ N ≤ 90:=by omega
      have f2:¬ 97 ≤ N:=by omega
      have f3:48 ≤ N:=by omega
      have f4:¬ N ≤ 57:=by omega
      have f5:(N == 95) = false:=by rw [beq_eq_false_iff_ne]; omega
      have HX:Hid (letterB c = false ∧ otherB c = false):=by
       exact (by
        rcases Nat.lt_or_ge n 128 with h | h
        · rw [HL.out,HO.out,← (HN1.out h).1]; simp; omega
        · have:=HN2.out h
          rw [HL.out,HO.out]; simp; omega:letterB c = false ∧ otherB c = false)
      clear hcl hN
      by_cases h0:pos = 0
      · subst h0
        go_wp2
        go_ret
        exact ⟨ret_bool (by rw [nameB_from,← HC.out,HB.out]; simp [nameFrom,HX.out.1]),Ext.box _ _⟩
      · have h0':(((pos:Nat):Int) == 0) = false:=by rw [beq_eq_false_iff_ne]; omega
        have HP:=Lib.hid h0; clear h0
        go_wp2
        go_ret
        exact ⟨ret_bool (by rw [nameB_from,← HC.out,HB.out]; simp [nameFrom,HX.out.1,HX.out.2]),Ext.box _ _⟩
    · have f0:65 ≤ N:=by omega
      have f1:¬ N ≤ 90:=by omega
      have f2:97 ≤ N:=by omega
      have f3:¬ N ≤ 122:=by omega
      have f4:48 ≤ N:=by omega
      have f5:¬ N ≤ 57:=by omega
      have f6:(N == 95) = false:=by rw [beq_eq_false_iff_ne]; omega
      have HX:Hid (letterB c = false ∧ otherB c = false):=by
       exact (by
        rcases Nat.lt_or_ge n 128 with h | h
        · rw [HL.out,HO.out,← (HN1.out h).1]; simp; omega
        · have:=HN2.out h
          rw [HL.out,HO.out]; simp; omega:letterB c = false ∧ otherB c = false)
      clear hcl hN
      by_cases h0:pos = 0
      · subst h0
        go_wp2
        go_ret
        exact ⟨ret_bool (by rw [nameB_from,← HC.out,HB.out]; simp [nameFrom,HX.out.1]),Ext.box _ _⟩
      · have h0':(((pos:Nat):Int) == 0) = false:=by rw [beq_eq_false_iff_ne]; omega
        have HP:=Lib.hid h0; clear h0
        go_wp2
        go_ret
        exact ⟨ret_bool (by rw [nameB_from,← HC.out,HB.out]; simp [nameFrom,HX.out.1,HX.out.2]),Ext.box _ _⟩
  · have hnx:∀ ty,(Instr.next (.pointer (some ⟨w.heap.size,0,none⟩)) true ty).run Tryz.prog (w.iter s pos) = _:=fun ty=>run_next_end w s pos ty hp
    have HF:Hid (nameFrom true s.data.toList = true):=by
     exact (by rw [← HC.out,List.drop_eq_nil_of_le (by simpa using hp)]; rfl:nameFrom true s.data.toList = true)
    have hsz:s.data.toList.length = s.size:=by simp
    have HS:=Lib.hid hsz
    clear hsz hp
    by_cases h24:(s.size:Int) ≤ 24
    · have H24:=Lib.hid h24
      go_wp2
      · have he:s.toList = []:=by assumption
        go_ret
        exact ⟨ret_bool (by rw [nameB_from,HF.out,nil_data he]; rfl),Ext.box _ _⟩
      · have he:¬ s.toList = []:=by assumption
        go_ret
        exact ⟨ret_bool (by have:=HS.out; have:=H24.out; rw [nameB_from,HF.out,Bool.true_and,decide_eq_true (ne_data he),Bool.true_and]; rw [decide_eq_true (by omega:s.data.toList.length ≤ 24)]; simp [he]),Ext.box _ _⟩
    · have H24:=Lib.hid h24
      go_wp2
      · have he:s.toList = []:=by assumption
        go_ret
        exact ⟨ret_bool (by rw [nameB_from,HF.out,nil_data he]; rfl),Ext.box _ _⟩
      · have he:¬ s.toList = []:=by assumption
        go_ret
        exact ⟨ret_bool (by have:=HS.out; have:=H24.out; rw [nameB_from,HF.out,Bool.true_and,decide_eq_true (ne_data he),Bool.true_and]; exact (decide_eq_false (by omega)).symm),Ext.box _ _⟩
end Go.Proofs
