/- What the functions of chapter 7 come to, in plain lists and numbers: no program is in sight here. Contracts of small functions of the references. Contracts of the laws' own small functions: number, ratio, event. The program's weight of a tree is the reference's: plain sums. Setting one event's chance: the weight with it sure is not less than with it out; the share of an event. Plain lists and sums. Contract: the reference's CheckMost. Contracts: the reference's Importance, Critical and Share; the law's 'event'. Contracts: the reference's Share; the law's 'when' and 'event'. Contracts: the reference's Critical; the law's 'when' and 'event'. Contracts: the law's 'when' and 'event'. The law FaultImportances: the call returns true. The law FaultImportances: for every input the call returns true, and each argument reads afterwards as before: the row's statement, and its tied card. The listed tables of math/bits and strconv are as the program's text lays them. -/
import Derived.Test.YthfanledageoeaaGreatDoorYb49
set_option linter.unusedVariables false
set_option linter.unusedSimpArgs false
set_option linter.constructorNameAsVariable false
namespace Go.Tw
namespace Tree
end Tree
namespace Tree
end Tree
namespace Tree
end Tree
def removed (l:List Int) (x:Int):List Int:=l.filter (· != x)
namespace Tree
end Tree
namespace Tree
end Tree
namespace Tree
end Tree
namespace Tree
end Tree
end Go.Tw
namespace Go.Proofs
open Go.RowKit Go.Tw
set_option maxRecDepth 100000 in
set_option maxHeartbeats 400000 in
theorem remove_any (w:World) (v:Value) (l:List Int) (x:Int) (hv:IsInts w v l) :
    Calls Tryz.prog 106 #[v,.int .i64 x] w fun e w'=>∃ u,e = .returned u ∧ IsInts w' u (removed l x) ∧ Ext w w':=by
 obtain ⟨i0,hi,hz0,hz1,hz2⟩:=info_parts Tryz.info3
 obtain ⟨A,cap,rfl,hl,hcap,hc⟩:=hv.opened
 clear hv
 go_enter Tryz.func106,Tryz.ntmps106
 go_wp2
 go_loopw [5,6] (fun u i wr=>∃ (k:Nat) (acc:List Int),k ≤ l.length ∧ i = .int .i64 k ∧ acc.length ≤ k ∧ Own1 wr w.heap.size 3 (.int .i64) u acc ∧ acc ++ removed (l.drop k) x = removed l x ∧ Ext w wr) (fun _ i _=>l.length - (intOf i).toNat)
 case atStart=>exact ⟨0,[],Nat.zero_le _,rfl,Nat.le_refl _,Own1.nil _ _ _ _,rfl,Ext.refl _⟩
 case round =>
  obtain ⟨k,acc,hk,rfl,hal,hown,hr,hx⟩:=hrel
  have HR:=Lib.hid hr; clear hr
  by_cases hlt:k < l.length
  · obtain ⟨b,off,rfl,hcell⟩:=hc k hlt
    replace hcell:=hx.cell hcell
    clear hc
    by_cases he:ix l k = x
    · have hx1:(ix l k != x) = false:=by simp [he]
      have HX:=Lib.hid he; clear he
      go_wp2
      go_roundw
      case rel=>exact ⟨k + 1,acc,by omega,by go_num,by omega,hown,by rw [← HR.out,drop_ix hlt,HX.out]; simp [removed],hx⟩
      case measure=>simp [intOf]; omega
    · have hx1:(ix l k != x) = true:=by simp [he]
      have HX:=Lib.hid he; clear he
      go_wp2_with (at_builtin; refine wpList_append_own _ rfl _ _ 39 rfl (w.heap.size) 3 i0 (.int .i64 0) 1 8 Tryz.underlying39 hi hz0 hz1 hz2 rfl (by decide) _ _ _ rfl (World.ownsRow.alloc hown _) ⟨wr.heap.size,0,none⟩ 1 1 [.int .i64 (ix l k)] rfl rfl ?_ ?_ ?_ ?_ ?_ ?_; exact one_new _ _ _; (focus (simp [Value.oneCell'])); (focus (unfold maxLen; omega)); (focus omega); (focus (have:=hx.size; simp at this ⊢; omega)); intro v' w1 hown' hgrow _)
      have hx':=ext_grown hx hown (Nat.le_refl _) hgrow
      go_wp2
      go_roundw
      case rel=>exact ⟨k + 1,acc ++ [ix l k],by omega,by go_num,by simp; omega,Own1.snoc hown',by rw [← HR.out,drop_ix hlt]; have:=HX.out; simp [removed,this],hx'⟩
      case measure=>simp [intOf]; omega
  · clear hc
    go_wp2
    go_ret
    refine ⟨_,rfl,?_,hx⟩
    have:=HR.out
    rw [List.drop_eq_nil_of_le (by omega)] at this
    simp only [removed,List.filter_nil,List.append_nil] at this
    rw [show removed l x = acc from this.symm]
    exact hown.ints (by omega)
end Go.Proofs
namespace Go.Proofs
open Go.RowKit Go.Tw Go.Flow
attribute [local go_sem ↓] run_eql_ratI
theorem number_ok (w:World) (bad x want:Int) (h0:bad = 0 → x = want) (h1:bad ≠ 0 → x = 0) :
    Calls Tryz.prog 41 #[.int .i64 x,.int .i64 bad,.int .i64 bad,.int .i64 want] w fun e w'=>e = .returned (.bool true) ∧ Ext w w':=by
 by_cases hb:bad = 0
 · subst hb
   obtain rfl:=h0 rfl
   have hx:(x == x) = true:=by simp
   clear h0 h1
   go_enter Tryz.func41,Tryz.ntmps41
   go_wp2
   go_ret
   exact ⟨rfl,Ext.refl _⟩
 · obtain rfl:=h1 hb
   have e1:(bad == bad) = true:=by simp
   have e2:(bad == 0) = false:=by simp [hb]
   have e3:(bad != 0) = true:=by simp [hb]
   clear h0 h1 hb
   go_enter Tryz.func41,Tryz.ntmps41
   go_wp2
   go_ret
   exact ⟨rfl,Ext.refl _⟩
set_option maxHeartbeats 400000 in
theorem ratio_ok (w:World) (bad a b c d:Int) (h0:bad = 0 → a = c ∧ b = d) (h1:bad ≠ 0 → a = 0 ∧ b = 0) :
    Calls Tryz.prog 33 #[.agg #[.int .i64 a,.int .i64 b],.int .i64 bad,.int .i64 bad,.agg #[.int .i64 c,.int .i64 d]] w fun e w'=>e = .returned (.bool true) ∧ Ext w w':=by
 have hx1:=Ext.box w (.cells #[.int .i64 a,.int .i64 b] 56)
 have hx2:=Ext.box (w.alloc (.cells #[.int .i64 a,.int .i64 b] 56)) (.cells #[.int .i64 c,.int .i64 d] 56)
 have HXX:=Lib.hid (hx1.trans hx2)
 clear hx1 hx2
 by_cases hb:bad = 0
 · subst hb
   obtain ⟨rfl,rfl⟩:=h0 rfl
   have e1:(a == a) = true:=by simp
   have e2:(b == b) = true:=by simp
   clear h0 h1
   go_enter Tryz.func33,Tryz.ntmps33
   go_wp2
   go_ret
   exact ⟨rfl,HXX.out⟩
 · obtain ⟨rfl,rfl⟩:=h1 hb
   have e1:(bad == bad) = true:=by simp
   have e2:(bad == 0) = false:=by simp [hb]
   have e3:(bad != 0) = true:=by simp [hb]
   clear h0 h1 hb
   go_enter Tryz.func33,Tryz.ntmps33
   go_wp2
   go_ret
   exact ⟨rfl,HXX.out⟩
end Go.Proofs
namespace Go.Proofs
open Go.Tw
theorem finRange_val (n:Nat):(List.finRange n).map (fun x=>x.1) = List.range n:=by
 apply List.ext_getElem
 · simp
 · intro i h1 h2
   simp
theorem sumW_map {N:Nat} (t:Tree) (c:List Int) (wi:Nat):∀ l:List (Fin N),sumW t c wi l = ((l.map (fun x=>x.1)).map (termW t c wi)).sum
 | []=>rfl
 | x :: l=>by rw [sumW,sumW_map t c wi l]; simp
theorem weightTo_sum (t:Tree) (c:List Int):∀ n,t.weightTo c n = ((List.range n).map fun s=>if t.fails (evN s) then partOf c s else 0).sum
 | 0=>rfl
 | n + 1=>by rw [Tree.weightTo,weightTo_sum t c n,List.range_succ,List.map_append,List.sum_append]; simp
theorem weightW_sum (t:Tree) (c:List Int) (wi:Nat):weightW t c wi = ((List.range (2 ^ t.size)).map (termW t c wi)).sum:=by
 unfold weightW
 rw [sumW_map,finRange_val]
theorem weightW_zero (t:Tree) (c:List Int):weightW t c 0 = t.weight c:=by
 rw [weightW_sum]
 unfold Tree.weight
 rw [weightTo_sum]
 congr 1
 apply List.map_congr_left
 intro s _
 unfold termW
 simp
end Go.Proofs
namespace Go.Proofs
open Go.Tw
theorem le_basicB {t:Tree} {a b:Nat → Bool} (h:∀ i,a i = true → b i = true) (i:Nat) (hi:t.basicB a i = true):t.basicB b i = true:=by
 unfold Tree.basicB at hi ⊢
 rw [Bool.or_eq_true] at hi ⊢
 rcases hi with hi | hi
 · exact .inl (h _ hi)
 · refine .inr ?_
   rw [List.any_eq_true] at hi ⊢
   obtain ⟨k,hk,hh⟩:=hi
   refine ⟨k,hk,?_⟩
   rw [Bool.and_eq_true] at hh ⊢
   exact ⟨h _ hh.1,hh.2⟩
def LeB (l m:List Bool):Prop:=l.length = m.length ∧ ∀ i,bx l i = true → bx m i = true
theorem bx_over {l:List Bool} {i:Nat} (h:l.length ≤ i):bx l i = false:=by
 unfold bx
 simp [List.getElem?_eq_none h]
theorem bx_in {l:List Bool} {i:Nat} (h:i < l.length):bx l i = l[i]:=by
 unfold bx
 simp [List.getElem?_eq_getElem h]
theorem LeB.failing {l m:List Bool} (h:LeB l m) (inputs:List Int):failing l inputs ≤ failing m inputs:=by
 unfold Tw.failing
 exact List.countP_mono_left fun x _ hx=>h.2 _ hx
theorem le_gatesB {t:Tree} {a b:Nat → Bool} (h:∀ i,a i = true → b i = true):∀ n,LeB (t.gatesB a n) (t.gatesB b n)
 | 0=>by
   unfold Tree.gatesB Tree.basicsB
   refine ⟨by simp,fun i hi=>?_⟩
   rcases Nat.lt_or_ge i t.basics.length with hlt | hge
   · rw [bx_in (by simpa using hlt)] at hi ⊢
     simp only [List.getElem_map,List.getElem_range] at hi ⊢
     exact le_basicB h i hi
   · rw [bx_over (by simpa using hge)] at hi; cases hi
 | n + 1=>by
   have ih:=le_gatesB (t:=t) h n
   unfold Tree.gatesB
   refine ⟨by simp [ih.1],fun i hi=>?_⟩
   rcases Nat.lt_or_ge i (t.gatesB a n).length with hlt | hge
   · have e:=ih.2 i
     rw [bx_in hlt,bx_in (by rw [← ih.1]; exact hlt)] at e
     rw [bx_in (by simp; omega),List.getElem_append_left hlt] at hi
     rw [bx_in (by simp; rw [← ih.1]; omega),List.getElem_append_left (by rw [← ih.1]; exact hlt)]
     exact e hi
   · rcases Nat.lt_or_ge i ((t.gatesB a n).length + 1) with h2 | h2
     · obtain rfl:i = (t.gatesB a n).length:=by omega
       rw [bx_in (by simp),List.getElem_append_right (Nat.le_refl _)] at hi
       rw [bx_in (by simp [ih.1]),List.getElem_append_right (by rw [ih.1]; exact Nat.le_refl _)]
       simp only [List.getElem_singleton] at hi ⊢
       unfold gateB at hi ⊢
       have:=ih.failing (gInputs t.gates n)
       simp only [decide_eq_true_eq] at hi ⊢
       omega
     · rw [bx_over (by simp; omega)] at hi; cases hi
theorem fails_le {t:Tree} {a b:Nat → Bool} (h:∀ i,a i = true → b i = true) (hf:t.fails a = true):t.fails b = true :=
 (le_gatesB h t.gates.length).2 _ hf
def sumN (f:Nat → Int):Nat → Int
 | 0=>0
 | n + 1=>sumN f n + f n
theorem sumN_congr {f g:Nat → Int}:∀ n,(∀ s,s < n → f s = g s) → sumN f n = sumN g n
 | 0,_=>rfl
 | n + 1,h=>by rw [sumN,sumN,sumN_congr n (fun s hs=>h s (by omega)),h n (by omega)]
theorem sumN_le {f g:Nat → Int}:∀ n,(∀ s,s < n → f s ≤ g s) → sumN f n ≤ sumN g n
 | 0,_=>Int.le_refl _
 | n + 1,h=>by
   have h1:=sumN_le n (fun s hs=>h s (by omega))
   have h2:=h n (by omega)
   rw [sumN,sumN]; omega
theorem sumN_add (f:Nat → Int) (m:Nat):∀ n,sumN f (m + n) = sumN f m + sumN (fun s=>f (m + s)) n
 | 0=>by simp [sumN]
 | n + 1=>by rw [← Nat.add_assoc,sumN,sumN_add f m n,sumN,Int.add_assoc]
theorem sumN_mul (f:Nat → Int) (c:Int):∀ n,sumN (fun s=>f s * c) n = sumN f n * c
 | 0=>by simp [sumN]
 | n + 1=>by rw [sumN,sumN,sumN_mul f c n,Int.add_mul]
theorem two_or {N s:Nat} (h:s < 2 ^ N):2 ^ N + s = 2 ^ N ||| s:=by
 have:=Nat.two_pow_add_eq_or_of_lt h 1
 rwa [Nat.mul_one] at this
theorem high_xor {N s:Nat} (h:s < 2 ^ N):(2 ^ N + s) ^^^ 2 ^ N = s:=by
 rw [two_or h]
 apply Nat.eq_of_testBit_eq
 intro i
 simp only [Nat.testBit_xor,Nat.testBit_or,Nat.testBit_two_pow]
 by_cases hi:N = i
 · subst hi; simp [Nat.testBit_lt_two_pow h]
 · simp [hi]
theorem low_xor {N s:Nat} (h:s < 2 ^ N):s ^^^ 2 ^ N = 2 ^ N + s:=by
 rw [two_or h]
 apply Nat.eq_of_testBit_eq
 intro i
 simp only [Nat.testBit_xor,Nat.testBit_or,Nat.testBit_two_pow]
 by_cases hi:N = i
 · subst hi; simp [Nat.testBit_lt_two_pow h]
 · simp [hi]
theorem add_xor {N s k:Nat} (h:s < 2 ^ N) (hk:k < N):(2 ^ N + s) ^^^ 2 ^ k = 2 ^ N + (s ^^^ 2 ^ k):=by
 have h2:s ^^^ 2 ^ k < 2 ^ N:=Nat.xor_lt_two_pow h (Nat.pow_lt_pow_right (by omega) hk)
 rw [two_or h,two_or h2]
 apply Nat.eq_of_testBit_eq
 intro i
 simp only [Nat.testBit_xor,Nat.testBit_or,Nat.testBit_two_pow]
 by_cases hi:N = i
 · subst hi; simp [show k ≠ N by omega]
 · simp [hi]
theorem sumN_flip (k:Nat):∀ (N:Nat),k < N → ∀ f:Nat → Int,sumN (fun s=>f (s ^^^ 2 ^ k)) (2 ^ N) = sumN f (2 ^ N)
 | 0,h,_=>absurd h (by omega)
 | N + 1,h,f=>by
   have e:2 ^ (N + 1) = 2 ^ N + 2 ^ N:=by rw [Nat.pow_succ]; omega
   rw [e,sumN_add,sumN_add]
   rcases Nat.lt_or_ge k N with hk | hk
   · rw [sumN_flip k N hk f,← sumN_flip k N hk (fun s=>f (2 ^ N + s))]
     congr 1
     exact sumN_congr _ fun s hs=>by show f _ = f _; rw [add_xor hs hk]
   · obtain rfl:k = N:=by omega
     rw [Int.add_comm]
     congr 1
     · exact sumN_congr _ fun s hs=>by show f _ = f _; rw [high_xor hs]
     · exact sumN_congr _ fun s hs=>by show f _ = f _; rw [low_xor hs]
def restTo (c:List Int) (s k:Nat):Nat → Int
 | 0=>1
 | j + 1=>restTo c s k j * if j = k then 1 else factor c s j
theorem withEv_ix {c:List Int} {k j:Nat} (hj:j < c.length) (x:Int):ix (withEv c [(k:Int)] x) j = if j = k then x else ix c j:=by
 rw [ix_eq (show j < (withEv c [(k:Int)] x).length by simp [withEv]; exact hj)]
 unfold withEv
 simp only [List.getElem_map,List.getElem_range]
 unfold has
 by_cases h:j = k
 · subst h; simp
 · rw [if_neg h,if_neg]
   simp; omega
theorem part_rest {c:List Int} (s k:Nat):∀ j,j ≤ c.length → partTo c s j = restTo c s k j * if k < j then factor c s k else 1
 | 0,_=>by simp [partTo,restTo]
 | j + 1,hj=>by
   have ih:=part_rest (c:=c) s k j (by omega)
   rw [partTo,restTo,ih]
   by_cases h:j = k
   · subst h
     rw [if_neg (by omega),if_pos rfl,if_pos (by omega),Int.mul_one]
   · rw [if_neg h]
     by_cases hk:k < j
     · rw [if_pos hk,if_pos (show k < j + 1 by omega),Int.mul_assoc,Int.mul_comm (factor c s k),← Int.mul_assoc]
     · rw [if_neg hk,if_neg (show ¬ k < j + 1 by omega),Int.mul_one,Int.mul_one]
theorem rest_with {c:List Int} (s k:Nat) (x:Int):∀ j,j ≤ c.length → restTo (withEv c [(k:Int)] x) s k j = restTo c s k j
 | 0,_=>rfl
 | j + 1,hj=>by
   rw [restTo,restTo,rest_with s k x j (by omega)]
   by_cases h:j = k
   · rw [if_pos h,if_pos h]
   · rw [if_neg h,if_neg h]
     unfold factor
     rw [withEv_ix (by omega),if_neg h]
theorem rest_flip (c:List Int) (s k:Nat):∀ j,restTo c (s ^^^ 2 ^ k) k j = restTo c s k j
 | 0=>rfl
 | j + 1=>by
   rw [restTo,restTo,rest_flip c s k j]
   by_cases h:j = k
   · rw [if_pos h,if_pos h]
   · rw [if_neg h,if_neg h]
     unfold factor
     rw [Nat.testBit_xor,Nat.testBit_two_pow,show decide (k = j) = false by simp; omega,Bool.xor_false]
theorem part_with {c:List Int} (s:Nat) {k:Nat} (hk:k < c.length) (x:Int):partOf (withEv c [(k:Int)] x) s = restTo c s k c.length * if s.testBit k then x else 16 - x:=by
 unfold partOf
 rw [show (withEv c [(k:Int)] x).length = c.length from withEv_len _ _ _,part_rest s k _ (by rw [withEv_len]; exact Nat.le_refl _),rest_with s k x _ (Nat.le_refl _),if_pos hk]
 unfold factor
 rw [withEv_ix hk,if_pos rfl]
theorem part_own {c:List Int} (s:Nat) {k:Nat} (hk:k < c.length):partOf c s = restTo c s k c.length * if s.testBit k then ix c k else 16 - ix c k:=by
 unfold partOf
 rw [part_rest s k _ (Nat.le_refl _),if_pos hk]
 rfl
theorem part_turn {c:List Int} (s:Nat) {k:Nat} (hk:k < c.length):partOf (withEv c [(k:Int)] 0) (s ^^^ 2 ^ k) = partOf (withEv c [(k:Int)] 16) s:=by
 rw [part_with _ hk,part_with _ hk,rest_flip]
 rw [Nat.testBit_xor,Nat.testBit_two_pow]
 cases s.testBit k <;> simp
theorem weight_sumN (t:Tree) (c:List Int):∀ n,t.weightTo c n = sumN (fun s=>if t.fails (evN s) then partOf c s else 0) n
 | 0=>rfl
 | n + 1=>by rw [Tree.weightTo,sumN,weight_sumN t c n]
theorem range_sumN (f:Nat → Int):∀ n,((List.range n).map f).sum = sumN f n
 | 0=>rfl
 | n + 1=>by rw [List.range_succ,List.map_append,List.sum_append,range_sumN f n,sumN]; simp
theorem weightW_sumN (t:Tree) (c:List Int) (wi:Nat):weightW t c wi = sumN (termW t c wi) (2 ^ t.size):=by
 rw [weightW_sum,range_sumN]
theorem imp_nonneg {t:Tree} (hv:Valid t) {k:Nat} (hk:k < t.size):t.weight (withEv t.chances [(k:Int)] 0) ≤ t.weight (withEv t.chances [(k:Int)] 16):=by
 have hlen:=chances_len t
 have hkc:k < t.chances.length:=by omega
 unfold Tree.weight
 rw [weight_sumN,weight_sumN,← sumN_flip k t.size hk]
 refine sumN_le _ fun s _=>?_
 show (if t.fails (evN (s ^^^ 2 ^ k)) then partOf (withEv t.chances [(k:Int)] 0) (s ^^^ 2 ^ k) else 0) ≤ if t.fails (evN s) then partOf (withEv t.chances [(k:Int)] 16) s else 0
 rw [part_turn s hkc]
 have h0:0 ≤ partOf (withEv t.chances [(k:Int)] 16) s:=(partTo_bd (Small.put hv.small (by omega) (by omega)) s _ (Nat.le_refl _)).1
 by_cases hb:s.testBit k = true
 · by_cases h1:t.fails (evN (s ^^^ 2 ^ k)) = true
   · have h2:t.fails (evN s) = true:=fails_le (fun i hi=>by
      unfold evN at hi ⊢
      rw [Nat.testBit_xor,Nat.testBit_two_pow] at hi
      by_cases hki:k = i
      · subst hki; exact hb
      · simpa [hki] using hi) h1
     rw [if_pos h1,if_pos h2]
     exact Int.le_refl _
   · rw [if_neg h1]
     split
     · exact h0
     · exact Int.le_refl _
 · have hz:partOf (withEv t.chances [(k:Int)] 16) s = 0:=by
    rw [part_with s hkc,if_neg hb]; simp
   rw [hz]; simp
theorem and_two_pow (s k:Nat):((s &&& 2 ^ k) = 2 ^ k) ↔ s.testBit k = true:=by
 constructor
 · intro h
   have:=congrArg (fun x=>x.testBit k) h
   simp only [Nat.testBit_and,Nat.testBit_two_pow] at this
   simpa using this
 · intro h
   apply Nat.eq_of_testBit_eq
   intro i
   rw [Nat.testBit_and,Nat.testBit_two_pow]
   by_cases hi:k = i
   · subst hi; simp [h]
   · simp [hi]
theorem share_eq {t:Tree} {k:Nat} (hk:k < t.size):weightW t t.chances (2 ^ k) = t.weight (withEv t.chances [(k:Int)] 16) / 16 * ix t.chances k:=by
 have hlen:=chances_len t
 have hkc:k < t.chances.length:=by omega
 obtain ⟨R,hR⟩:∃ R:Nat → Int,R = fun s=>if (s.testBit k = true ∧ t.fails (evN s) = true) then restTo t.chances s k t.chances.length else 0:=⟨_,rfl⟩
 have h1:weightW t t.chances (2 ^ k) = sumN R (2 ^ t.size) * ix t.chances k:=by
  rw [weightW_sumN,← sumN_mul]
  refine sumN_congr _ fun s _=>?_
  unfold termW
  rw [hR]
  simp only [and_two_pow]
  by_cases h:s.testBit k = true ∧ t.fails (evN s) = true
  · rw [if_pos h,if_pos h,part_own s hkc,if_pos h.1]
  · rw [if_neg h,if_neg h]; simp
 have h2:t.weight (withEv t.chances [(k:Int)] 16) = sumN R (2 ^ t.size) * 16:=by
  unfold Tree.weight
  rw [weight_sumN,← sumN_mul]
  refine sumN_congr _ fun s _=>?_
  rw [part_with s hkc,hR]
  by_cases hb:s.testBit k = true
  · by_cases hf:t.fails (evN s) = true
    · simp [hb,hf]
    · simp [hb,hf]
  · simp [hb]
 rw [h1,h2,Int.mul_ediv_cancel _ (by omega)]
def critTo (t:Tree) (k:Nat):Nat → Nat
 | 0=>0
 | n + 1=>critTo t k n + if critB t k n then 1 else 0
theorem critC_eq {N:Nat} (t:Tree) (k:Nat):∀ l:List (Fin N),critC t k l = ((l.map (fun x=>x.1)).map fun s=>if critB t k s then 1 else 0).sum
 | []=>rfl
 | x :: l=>by rw [critC,critC_eq t k l]; simp
theorem critTo_eq (t:Tree) (k:Nat):∀ n,((List.range n).map fun s=>if critB t k s then 1 else 0).sum = critTo t k n
 | 0=>rfl
 | n + 1=>by rw [List.range_succ,List.map_append,List.sum_append,critTo_eq t k n,critTo]; simp
theorem critC_to (t:Tree) (k:Nat) (n:Nat):critC t k (List.finRange n) = critTo t k n:=by
 rw [critC_eq,finRange_val,critTo_eq]
theorem critTo_le (t:Tree) (k:Nat):∀ n,critTo t k n ≤ n
 | 0=>Nat.le_refl _
 | n + 1=>by
   have:=critTo_le t k n
   rw [critTo]; split <;> omega
theorem removed_ev {s:Nat} (hs:s < 65536) (k:Nat):evL (removed (bitsOf s) (k:Int)) = evN (clearB s (2 ^ k)):=by
 funext i
 have h:=congrFun (evL_bits hs) i
 unfold evL evN at h
 unfold evL evN
 rw [clearB_bit,Nat.testBit_two_pow,← h]
 unfold has removed
 rw [Bool.eq_iff_iff]
 simp only [List.contains_iff_mem,List.mem_filter,Bool.and_eq_true,bne_iff_ne,ne_eq,Bool.not_eq_true',decide_eq_false_iff_not]
 constructor
 · rintro ⟨a,b⟩
   exact ⟨a,fun e=>b (by rw [e])⟩
 · rintro ⟨a,b⟩
   exact ⟨a,fun e=>b (by omega)⟩
end Go.Proofs
namespace Go.Proofs
open Go.RowKit Go.Tw Go.Flow
theorem ix_chances {t:Tree} {k:Nat} (hk:k < t.size):ix t.chances k = t.chanceAt k:=by
 rw [ix_eq (by rw [chances_len]; exact hk)]
 unfold Tree.chances
 simp
end Go.Proofs
namespace Go.Proofs
open Go.RowKit Go.Tw Go.Flow
theorem impW_eq (t:Tree) (n:Int):impW t n = t.weight (withEv t.chances [n] 16) - t.weight (withEv t.chances [n] 0):=by
 unfold impW
 rw [weightW_zero,weightW_zero]
set_option maxRecDepth 100000 in
set_option maxHeartbeats 4000000 in
theorem rImportance_any (w:World) (v:Value) (t:Tree) (k:Nat) (hv:Valid t) (hk:k < t.size) (ht:IsTree w v t) :
    Calls Tryz.prog 38 #[v,.int .i64 k] w fun e w'=>e = .returned (.agg #[.int .i64 (lowest (impW t k) (powN 16 t.size)).num,.int .i64 (lowest (impW t k) (powN 16 t.size)).den]) ∧ Ext w w':=by
 have HV:=Lib.hid hv
 have hsz:=hv.size
 have HSM:=Lib.hid hv.small
 have HCL:=Lib.hid (chances_len t)
 have HPOS:Hid (0 < t.chances.length):=by exact (by rw [HCL.out]; omega:0 < t.chances.length)
 have HRNG:Hid (∀ j,j < [(k:Int)].length → 0 ≤ ix [(k:Int)] j ∧ ix [(k:Int)] j < t.chances.length):=by
  exact (fun j hj => by have e : j = 0 := by simpa using hj
                        subst e
                        show 0 ≤ (k:Int) ∧ (k:Int) < t.chances.length
                        rw [HCL.out]; omega:∀ j,j < [(k:Int)].length → 0 ≤ ix [(k:Int)] j ∧ ix [(k:Int)] j < t.chances.length)
 have HS0:=Lib.hid (Small.put (l:=[(k:Int)]) HSM.out (n:=0) (by omega) (by omega))
 have HS1:=Lib.hid (Small.put (l:=[(k:Int)]) HSM.out (n:=16) (by omega) (by omega))
 have hb0:=weight_bd HS0.out (t:=t) hsz
 have hb1:=weight_bd HS1.out (t:=t) hsz
 have hle:=imp_nonneg hv hk
 have HIM:=Lib.hid (impW_eq t k)
 obtain ⟨m0,hm0⟩:∃ m,t.weight (withEv t.chances [(k:Int)] 0) = m:=⟨_,rfl⟩
 obtain ⟨m1,hm1⟩:∃ m,t.weight (withEv t.chances [(k:Int)] 16) = m:=⟨_,rfl⟩
 have HM0:=Lib.hid hm0
 have HM1:=Lib.hid hm1
 rw [hm0] at hb0 hle HIM
 rw [hm1] at hb1 hle HIM
 have hpb:=powN16_bd hsz
 clear hv hm0 hm1
 obtain ⟨a,b,c,rfl,h3⟩:=ht
 obtain ⟨A,capa,rfl,hl1,hcap1,_⟩:=h3.basics.opened
 obtain ⟨B,capb,rfl,hl2,hcap2,_⟩:=h3.causes.opened
 obtain ⟨G,capg,rfl,hl3,hcap3,_⟩:=h3.gates.opened
 have HT0:=Lib.hid h3
 clear h3
 go_enter Tryz.func38,Tryz.ntmps38
 go_wp2_with fail
 change Code.wp _ _ _ _ ((w.alloc (.cells #[.slice A t.basics.length capa,.slice B t.causes.length capb,.slice G t.gates.length capg] 26)).alloc (.cells #[.int .i64 0,.int .i64 0] 56))
 have k0:=Blk.made w 26 #[.slice A t.basics.length capa,.slice B t.causes.length capb,.slice G t.gates.length capg]
 have x0:=Ext.box w (.cells #[.slice A t.basics.length capa,.slice B t.causes.length capb,.slice G t.gates.length capg] 26)
 have es0:(w.alloc (.cells #[.slice A t.basics.length capa,.slice B t.causes.length capb,.slice G t.gates.length capg] 26)).heap.size = w.heap.size + 1:=by simp
 obtain ⟨X0,hX0⟩:∃ X,w.alloc (.cells #[.slice A t.basics.length capa,.slice B t.causes.length capb,.slice G t.gates.length capg] 26) = X:=⟨_,rfl⟩
 rw [hX0] at k0 x0 es0 ⊢
 clear hX0
 have k1:=Blk.made X0 56 #[.int .i64 0,.int .i64 0]
 have x1:=Ext.box X0 (.cells #[.int .i64 0,.int .i64 0] 56)
 have es1:(X0.alloc (.cells #[.int .i64 0,.int .i64 0] 56)).heap.size = X0.heap.size + 1:=by simp
 obtain ⟨X1,hX1⟩:∃ X,X0.alloc (.cells #[.int .i64 0,.int .i64 0] 56) = X:=⟨_,rfl⟩
 rw [hX1] at k1 x1 es1 ⊢
 clear hX1
 replace k0:=k0.ext x1
 have e0:X0.heap.size = w.heap.size + 1:=by omega
 have e1:X1.heap.size = w.heap.size + 1 + 1:=by omega
 rw [e0] at k1
 have HXW:Hid (Ext w X1):=by exact (Ext.trans (x0) x1:Ext w X1)
 have eW:X1.heap.size = w.heap.size + 1 + 1:=e1
 clear x0 es0 e0 x1 es1 e1
 obtain ⟨W,hWW⟩:∃ W,X1 = W:=⟨_,rfl⟩
 rw [hWW] at HXW eW ⊢ k0 k1
 clear hWW
 have HT:=Lib.hid (HT0.out.ext HXW.out)
 have K0:=Lib.hid k0
 have K1:=Lib.hid k1
 clear k0 k1
 have hdr:=(Ext.refl W).drew
 refine Flow.regionB0 [.world,.world,.world,.plain,.world,.world,.world,.plain] [0,1,2,3,4,5,6,7] [[],[],[1],[],[3],[1,2,3,4],[0,1,2,3,4,5],[0,1,2,3,4,5,6]]
  [.is 0 (fun v=>.agg #[.slice A t.basics.length capa,.slice B t.causes.length capb,.slice G t.gates.length capg]),.is 1 (fun v=>.agg #[.slice A t.basics.length capa,.slice B t.causes.length capb,.slice G t.gates.length capg]),⟨fun v wz=>IsInts wz (v 2) t.chances,fun _ _ _ hx h=>h.ext hx⟩,.is 3 (fun v=>.int .i64 k),⟨fun v wz=>IsInts wz (v 4) [(k:Int)],fun _ _ _ hx h=>h.ext hx⟩,⟨fun v wz=>IsInts wz (v 5) (withEv t.chances [(k:Int)] 16),fun _ _ _ hx h=>h.ext hx⟩,.is 6 (fun v=>.int .i64 m1),.is 7 (fun v=>.int .i64 m1)]
  (by kernel_rfl) rfl (by kernel_rfl) ⟨?g0,?g1,?g2,?g3,?g4,?g5,?g6,?g7,trivial⟩ ?post
 case g0 =>
  intro v w1 hx
  intro bb hbb
  intro K hK
  have o1:bb.eval (.tmp 2) = .pointer (some ⟨w.heap.size,0,none⟩):=by rw [hbb]; dsimp only; (try simp (discharger:=decide) only [eval_put_ne]); rfl
  exact gives_load_blk (.tmp 2) _ rfl Tryz.aggRTree Tryz.sizeRTree o1 (K0.out.ext (hdr.trans hx)) rfl (hK _ _ (Ext.refl _) rfl)
 case g1 =>
  intro v w1 hx
  intro bb hbb
  intro K hK
  have o1:bb.eval (.tmp 2) = .pointer (some ⟨w.heap.size,0,none⟩):=by rw [hbb]; dsimp only; (try simp (discharger:=decide) only [eval_put_ne]); rfl
  exact gives_load_blk (.tmp 2) _ rfl Tryz.aggRTree Tryz.sizeRTree o1 (K0.out.ext (hdr.trans hx)) rfl (hK _ _ (Ext.refl _) rfl)
 case g2 =>
  intro v w1 hx (q1:v 1 = .agg #[.slice A t.basics.length capa,.slice B t.causes.length capb,.slice G t.gates.length capg])
  intro bb hbb
  subst hbb
  intro K hK
  go_simp
  refine gives_call (chances_any _ _ t (by omega) ⟨_,_,_,rfl,HT.out.ext (hdr.trans hx)⟩) ?_
  rintro e w2 ⟨x,rfl,h,hx2⟩
  exact ⟨_,rfl,hK _ _ hx2 h⟩
 case g3 =>
  intro v w1 hx
  intro bb hbb
  subst hbb
  refine ⟨_,fun w=>?_,rfl⟩
  go_simp
 case g4 =>
  intro v w1 hx (q3:v 3 = .int .i64 k)
  intro bb hbb
  subst hbb
  intro K hK
  go_simp
  exact hK _ _ (Ext.box _ _) (ints_new (l:=[(k:Int)]) (by simp))
 case g5 =>
  intro v w1 hx (q1:v 1 = .agg #[.slice A t.basics.length capa,.slice B t.causes.length capb,.slice G t.gates.length capg]) (q2:IsInts w1 (v 2) t.chances) (q3:v 3 = .int .i64 k) (q4:IsInts w1 (v 4) [(k:Int)])
  intro bb hbb
  subst hbb
  intro K hK
  go_simp
  refine gives_call (with_any _ _ _ t.chances [(k:Int)] 16 HPOS.out HRNG.out q2 q4) ?_
  rintro e w2 ⟨x,rfl,h,hx2⟩
  exact ⟨_,rfl,hK _ _ hx2 h⟩
 case g6 =>
  intro v w1 hx (q0:v 0 = .agg #[.slice A t.basics.length capa,.slice B t.causes.length capb,.slice G t.gates.length capg]) (q1:v 1 = .agg #[.slice A t.basics.length capa,.slice B t.causes.length capb,.slice G t.gates.length capg]) (q2:IsInts w1 (v 2) t.chances) (q3:v 3 = .int .i64 k) (q4:IsInts w1 (v 4) [(k:Int)]) (q5:IsInts w1 (v 5) (withEv t.chances [(k:Int)] 16))
  intro bb hbb
  subst hbb
  intro K hK
  go_simp
  refine gives_call ((by rw [← HM1.out]; exact weight_any w1 _ _ t _ HV.out.fit HV.out.nodes hsz HS1.out ⟨_,_,_,rfl,HT.out.ext (hdr.trans hx)⟩ q5:Calls Tryz.prog 104 #[.agg #[.slice A t.basics.length capa,.slice B t.causes.length capb,.slice G t.gates.length capg],v 5] w1 fun e w'=>e = .returned (.int .i64 m1) ∧ Ext w1 w')) ?_
  rintro e w2 ⟨rfl,hx2⟩
  exact ⟨_,rfl,hK _ _ hx2 rfl⟩
 case g7 =>
  intro v w1 hx (q0:v 0 = .agg #[.slice A t.basics.length capa,.slice B t.causes.length capb,.slice G t.gates.length capg]) (q1:v 1 = .agg #[.slice A t.basics.length capa,.slice B t.causes.length capb,.slice G t.gates.length capg]) (q2:IsInts w1 (v 2) t.chances) (q3:v 3 = .int .i64 k) (q4:IsInts w1 (v 4) [(k:Int)]) (q5:IsInts w1 (v 5) (withEv t.chances [(k:Int)] 16)) (q6:v 6 = .int .i64 m1)
  intro bb hbb
  subst hbb
  refine ⟨_,fun w=>?_,rfl⟩
  go_simp
 case post =>
  intro v w1 hx (q0:v 0 = .agg #[.slice A t.basics.length capa,.slice B t.causes.length capb,.slice G t.gates.length capg]) (q1:v 1 = .agg #[.slice A t.basics.length capa,.slice B t.causes.length capb,.slice G t.gates.length capg]) (q2:IsInts w1 (v 2) t.chances) (q3:v 3 = .int .i64 k) (q4:IsInts w1 (v 4) [(k:Int)]) (q5:IsInts w1 (v 5) (withEv t.chances [(k:Int)] 16)) (q6:v 6 = .int .i64 m1) (q7:v 7 = .int .i64 m1)
  simp only [Flow.All,Flow.acts,Act.put]
  go_simp
  have HX1:=Lib.hid (hdr.trans hx)
  obtain ⟨wa,hwa⟩:∃ x,w1 = x:=⟨_,rfl⟩
  rw [hwa] at HX1 ⊢
  have hdr:=(Ext.refl wa).drew
  clear hx hdr q0 q1 q2 q3 q4 q5 q6 q7 hwa
  have hdr:=(Ext.refl wa).drew
  go_wp2
  refine Flow.regionB0 [.world,.world,.world,.plain,.world,.world,.world,.plain] [0,1,2,3,4,5,6,7] [[],[],[1],[],[3],[1,2,3,4],[0,1,2,3,4,5],[0,1,2,3,4,5,6]]
   [.is 0 (fun v=>.agg #[.slice A t.basics.length capa,.slice B t.causes.length capb,.slice G t.gates.length capg]),.is 1 (fun v=>.agg #[.slice A t.basics.length capa,.slice B t.causes.length capb,.slice G t.gates.length capg]),⟨fun v wz=>IsInts wz (v 2) t.chances,fun _ _ _ hx h=>h.ext hx⟩,.is 3 (fun v=>.int .i64 k),⟨fun v wz=>IsInts wz (v 4) [(k:Int)],fun _ _ _ hx h=>h.ext hx⟩,⟨fun v wz=>IsInts wz (v 5) (withEv t.chances [(k:Int)] 0),fun _ _ _ hx h=>h.ext hx⟩,.is 6 (fun v=>.int .i64 m0),.is 7 (fun v=>.int .i64 m0)]
   (by kernel_rfl) rfl (by kernel_rfl) ⟨?g0,?g1,?g2,?g3,?g4,?g5,?g6,?g7,trivial⟩ ?post
  case g0 =>
   intro v w1 hx
   intro bb hbb
   intro K hK
   have o1:bb.eval (.tmp 2) = .pointer (some ⟨w.heap.size,0,none⟩):=by rw [hbb]; dsimp only; (try simp (discharger:=decide) only [eval_put_ne]); rfl
   exact gives_load_blk (.tmp 2) _ rfl Tryz.aggRTree Tryz.sizeRTree o1 (K0.out.ext (HX1.out.trans (hdr.trans hx))) rfl (hK _ _ (Ext.refl _) rfl)
  case g1 =>
   intro v w1 hx
   intro bb hbb
   intro K hK
   have o1:bb.eval (.tmp 2) = .pointer (some ⟨w.heap.size,0,none⟩):=by rw [hbb]; dsimp only; (try simp (discharger:=decide) only [eval_put_ne]); rfl
   exact gives_load_blk (.tmp 2) _ rfl Tryz.aggRTree Tryz.sizeRTree o1 (K0.out.ext (HX1.out.trans (hdr.trans hx))) rfl (hK _ _ (Ext.refl _) rfl)
  case g2 =>
   intro v w1 hx (q1:v 1 = .agg #[.slice A t.basics.length capa,.slice B t.causes.length capb,.slice G t.gates.length capg])
   intro bb hbb
   subst hbb
   intro K hK
   go_simp
   refine gives_call (chances_any _ _ t (by omega) ⟨_,_,_,rfl,HT.out.ext (HX1.out.trans (hdr.trans hx))⟩) ?_
   rintro e w2 ⟨x,rfl,h,hx2⟩
   exact ⟨_,rfl,hK _ _ hx2 h⟩
  case g3 =>
   intro v w1 hx
   intro bb hbb
   subst hbb
   refine ⟨_,fun w=>?_,rfl⟩
   go_simp
  case g4 =>
   intro v w1 hx (q3:v 3 = .int .i64 k)
   intro bb hbb
   subst hbb
   intro K hK
   go_simp
   exact hK _ _ (Ext.box _ _) (ints_new (l:=[(k:Int)]) (by simp))
  case g5 =>
   intro v w1 hx (q1:v 1 = .agg #[.slice A t.basics.length capa,.slice B t.causes.length capb,.slice G t.gates.length capg]) (q2:IsInts w1 (v 2) t.chances) (q3:v 3 = .int .i64 k) (q4:IsInts w1 (v 4) [(k:Int)])
   intro bb hbb
   subst hbb
   intro K hK
   go_simp
   refine gives_call (with_any _ _ _ t.chances [(k:Int)] 0 HPOS.out HRNG.out q2 q4) ?_
   rintro e w2 ⟨x,rfl,h,hx2⟩
   exact ⟨_,rfl,hK _ _ hx2 h⟩
  case g6 =>
   intro v w1 hx (q0:v 0 = .agg #[.slice A t.basics.length capa,.slice B t.causes.length capb,.slice G t.gates.length capg]) (q1:v 1 = .agg #[.slice A t.basics.length capa,.slice B t.causes.length capb,.slice G t.gates.length capg]) (q2:IsInts w1 (v 2) t.chances) (q3:v 3 = .int .i64 k) (q4:IsInts w1 (v 4) [(k:Int)]) (q5:IsInts w1 (v 5) (withEv t.chances [(k:Int)] 0))
   intro bb hbb
   subst hbb
   intro K hK
   go_simp
   refine gives_call ((by rw [← HM0.out]; exact weight_any w1 _ _ t _ HV.out.fit HV.out.nodes hsz HS0.out ⟨_,_,_,rfl,HT.out.ext (HX1.out.trans (hdr.trans hx))⟩ q5:Calls Tryz.prog 104 #[.agg #[.slice A t.basics.length capa,.slice B t.causes.length capb,.slice G t.gates.length capg],v 5] w1 fun e w'=>e = .returned (.int .i64 m0) ∧ Ext w1 w')) ?_
   rintro e w2 ⟨rfl,hx2⟩
   exact ⟨_,rfl,hK _ _ hx2 rfl⟩
  case g7 =>
   intro v w1 hx (q0:v 0 = .agg #[.slice A t.basics.length capa,.slice B t.causes.length capb,.slice G t.gates.length capg]) (q1:v 1 = .agg #[.slice A t.basics.length capa,.slice B t.causes.length capb,.slice G t.gates.length capg]) (q2:IsInts w1 (v 2) t.chances) (q3:v 3 = .int .i64 k) (q4:IsInts w1 (v 4) [(k:Int)]) (q5:IsInts w1 (v 5) (withEv t.chances [(k:Int)] 0)) (q6:v 6 = .int .i64 m0)
   intro bb hbb
   subst hbb
   refine ⟨_,fun w=>?_,rfl⟩
   go_simp
  case post =>
   intro v w1 hx (q0:v 0 = .agg #[.slice A t.basics.length capa,.slice B t.causes.length capb,.slice G t.gates.length capg]) (q1:v 1 = .agg #[.slice A t.basics.length capa,.slice B t.causes.length capb,.slice G t.gates.length capg]) (q2:IsInts w1 (v 2) t.chances) (q3:v 3 = .int .i64 k) (q4:IsInts w1 (v 4) [(k:Int)]) (q5:IsInts w1 (v 5) (withEv t.chances [(k:Int)] 0)) (q6:v 6 = .int .i64 m0) (q7:v 7 = .int .i64 m0)
   simp only [Flow.All,Flow.acts,Act.put]
   go_simp
   have HX2:=Lib.hid (HX1.out.trans (hdr.trans hx))
   obtain ⟨wb,hwb⟩:∃ x,w1 = x:=⟨_,rfl⟩
   rw [hwb] at HX2 ⊢
   clear hx hdr q0 q1 q2 q3 q4 q5 q6 q7 hwb
   have HKX:=Lib.hid (K0.out.ext HX2.out)
   have d0:=HKX.out.cell 0
   have d1:=HKX.out.cell 1
   have d2:=HKX.out.cell 2
   simp only [List.getElem?_toArray,List.getElem?_cons_zero,List.getElem?_cons_succ] at d0 d1 d2
   go_wp2_with fail
   refine (Size_any _ _ t ⟨_,_,_,rfl,HT.out.ext HX2.out⟩).mono ?_
   rintro e w4 ⟨rfl,hx4⟩
   have HX4:=Lib.hid (HX2.out.trans hx4)
   clear hx4 d0 d1 d2
   go_wp2_with fail
   refine (power16_any _ _ hsz).mono ?_
   rintro e w5 ⟨rfl,rfl⟩
   go_wp2_with fail
   refine (Lowest_any _ _ _ (by omega) (by omega) (by omega) (by omega)).mono ?_
   rintro e w6 ⟨rfl,hx6⟩
   have HX6:=Lib.hid (HX4.out.trans hx6)
   have HK1:=K1.out.ext HX6.out
   clear hx6
   go_wp2_with (refine wpList_store_blk rfl _ _ 56 rfl Tryz.sizeRat rfl rfl HK1 rfl rfl ?_ ?_; (focus (intro u hu; simp only [List.mem_cons,List.not_mem_nil,or_false] at hu; rcases hu with rfl | rfl <;> rfl)); intro w8 hb8 hl8 ho8)
   refine bodyPost_ret (results_blk Tryz.results38 rfl hb8 Tryz.aggRat Tryz.sizeRat) rfl ?_
   exact ⟨by rw [HIM.out],Below.trans (HXW.out.trans HX6.out) (hl8 _ (by omega))⟩
end Go.Proofs
namespace Go.Proofs
open Go.RowKit Go.Tw Go.Flow
set_option maxRecDepth 100000 in
set_option maxHeartbeats 4000000 in
theorem rShare_any (w:World) (v:Value) (t:Tree) (k:Nat) (hv:Valid t) (hk:k < t.size) (ht:IsTree w v t) :
    Calls Tryz.prog 40 #[v,.int .i64 k] w fun e w'=>∃ (r:Ratio) (x:Int),e = .returned (.tuple #[.agg #[.int .i64 r.num,.int .i64 r.den],.int .i64 x]) ∧
     ((weightW t t.chances 0 = 0 ∧ r = ⟨0,0⟩ ∧ x = 6) ∨ (weightW t t.chances 0 ≠ 0 ∧ r = lowest (weightW t t.chances (2 ^ k)) (weightW t t.chances 0) ∧ x = 0)) ∧ Ext w w':=by
 have HV:=Lib.hid hv
 have hsz:=hv.size
 have HSM:=Lib.hid hv.small
 have HCL:=Lib.hid (chances_len t)
 have HPOS:Hid (0 < t.chances.length):=by exact (by rw [HCL.out]; omega:0 < t.chances.length)
 have HRNG:Hid (∀ j,j < [(k:Int)].length → 0 ≤ ix [(k:Int)] j ∧ ix [(k:Int)] j < t.chances.length):=by
  exact (fun j hj => by have e : j = 0 := by simpa using hj
                        subst e
                        show 0 ≤ (k:Int) ∧ (k:Int) < t.chances.length
                        rw [HCL.out]; omega:∀ j,j < [(k:Int)].length → 0 ≤ ix [(k:Int)] j ∧ ix [(k:Int)] j < t.chances.length)
 have HS1:=Lib.hid (Small.put (l:=[(k:Int)]) HSM.out (n:=16) (by omega) (by omega))
 have hb1:=weight_bd HS1.out (t:=t) hsz
 have hb0:=weight_bd HSM.out (t:=t) hsz
 have hbs:=weightW_bd HSM.out t (2 ^ k) hsz
 have hbc:=HSM.out.ix (show k < t.chances.length by rw [HCL.out]; exact hk)
 have HW0:=Lib.hid (weightW_zero t t.chances)
 have HSE:=Lib.hid (share_eq (t:=t) hk)
 have HCH:=Lib.hid (ix_chances (t:=t) hk)
 rw [HCH.out] at HSE hbc
 obtain ⟨sw,hsw⟩:∃ m,weightW t t.chances (2 ^ k) = m:=⟨_,rfl⟩
 obtain ⟨m0,hm0⟩:∃ m,t.weight t.chances = m:=⟨_,rfl⟩
 obtain ⟨m1,hm1⟩:∃ m,t.weight (withEv t.chances [(k:Int)] 16) = m:=⟨_,rfl⟩
 obtain ⟨ch,hch⟩:∃ m,t.chanceAt k = m:=⟨_,rfl⟩
 have HM0:=Lib.hid hm0
 have HM1:=Lib.hid hm1
 have HCC:=Lib.hid hch
 have HSW:=Lib.hid hsw
 rw [hsw] at hbs HSE
 rw [hm0] at hb0 HW0
 rw [hm1] at hb1 HSE
 rw [hch] at hbc HSE
 have hse:=HSE.out
 obtain ⟨d,hd⟩:∃ d,m1 / 16 = d:=⟨_,rfl⟩
 have hdb:0 ≤ d ∧ d ≤ 1152921504606846976:=by omega
 have HD:=Lib.hid hd
 rw [hd] at hse
 have HDC:=Lib.hid hse
 clear hv hm0 hm1 hsw hch hd hse
 obtain ⟨a,b,c,rfl,h3⟩:=ht
 obtain ⟨A,capa,rfl,hl1,hcap1,_⟩:=h3.basics.opened
 obtain ⟨B,capb,rfl,hl2,hcap2,_⟩:=h3.causes.opened
 obtain ⟨G,capg,rfl,hl3,hcap3,_⟩:=h3.gates.opened
 have HT0:=Lib.hid h3
 clear h3
 go_enter Tryz.func40,Tryz.ntmps40
 go_wp2_with fail
 change Code.wp _ _ _ _ ((w.alloc (.cells #[.slice A t.basics.length capa,.slice B t.causes.length capb,.slice G t.gates.length capg] 26)).alloc (.cells #[.int .i64 0,.int .i64 0] 56))
 have k0:=Blk.made w 26 #[.slice A t.basics.length capa,.slice B t.causes.length capb,.slice G t.gates.length capg]
 have x0:=Ext.box w (.cells #[.slice A t.basics.length capa,.slice B t.causes.length capb,.slice G t.gates.length capg] 26)
 have es0:(w.alloc (.cells #[.slice A t.basics.length capa,.slice B t.causes.length capb,.slice G t.gates.length capg] 26)).heap.size = w.heap.size + 1:=by simp
 obtain ⟨X0,hX0⟩:∃ X,w.alloc (.cells #[.slice A t.basics.length capa,.slice B t.causes.length capb,.slice G t.gates.length capg] 26) = X:=⟨_,rfl⟩
 rw [hX0] at k0 x0 es0 ⊢
 clear hX0
 have k1:=Blk.made X0 56 #[.int .i64 0,.int .i64 0]
 have x1:=Ext.box X0 (.cells #[.int .i64 0,.int .i64 0] 56)
 have es1:(X0.alloc (.cells #[.int .i64 0,.int .i64 0] 56)).heap.size = X0.heap.size + 1:=by simp
 obtain ⟨X1,hX1⟩:∃ X,X0.alloc (.cells #[.int .i64 0,.int .i64 0] 56) = X:=⟨_,rfl⟩
 rw [hX1] at k1 x1 es1 ⊢
 clear hX1
 replace k0:=k0.ext x1
 have e0:X0.heap.size = w.heap.size + 1:=by omega
 have e1:X1.heap.size = w.heap.size + 1 + 1:=by omega
 rw [e0] at k1
 have HXW:Hid (Ext w X1):=by exact (Ext.trans (x0) x1:Ext w X1)
 have eW:X1.heap.size = w.heap.size + 1 + 1:=e1
 clear x0 es0 e0 x1 es1 e1
 obtain ⟨W,hWW⟩:∃ W,X1 = W:=⟨_,rfl⟩
 rw [hWW] at HXW eW ⊢ k0 k1
 clear hWW
 have HT:=Lib.hid (HT0.out.ext HXW.out)
 have K0:=Lib.hid k0
 have K1:=Lib.hid k1
 clear k0 k1
 have hdr:=(Ext.refl W).drew
 refine Flow.regionB0 [.world,.world,.world,.world,.plain] [0,1,2,3,4] [[],[],[1],[0,1,2],[0,1,2,3]]
  [.is 0 (fun v=>.agg #[.slice A t.basics.length capa,.slice B t.causes.length capb,.slice G t.gates.length capg]),.is 1 (fun v=>.agg #[.slice A t.basics.length capa,.slice B t.causes.length capb,.slice G t.gates.length capg]),⟨fun v wz=>IsInts wz (v 2) t.chances,fun _ _ _ hx h=>h.ext hx⟩,.is 3 (fun v=>.int .i64 m0),.is 4 (fun v=>.int .i64 m0)]
  (by kernel_rfl) rfl (by kernel_rfl) ⟨?g0,?g1,?g2,?g3,?g4,trivial⟩ ?post
 case g0 =>
  intro v w1 hx
  intro bb hbb
  intro K hK
  have o1:bb.eval (.tmp 2) = .pointer (some ⟨w.heap.size,0,none⟩):=by rw [hbb]; dsimp only; (try simp (discharger:=decide) only [eval_put_ne]); rfl
  exact gives_load_blk (.tmp 2) _ rfl Tryz.aggRTree Tryz.sizeRTree o1 (K0.out.ext (hdr.trans hx)) rfl (hK _ _ (Ext.refl _) rfl)
 case g1 =>
  intro v w1 hx
  intro bb hbb
  intro K hK
  have o1:bb.eval (.tmp 2) = .pointer (some ⟨w.heap.size,0,none⟩):=by rw [hbb]; dsimp only; (try simp (discharger:=decide) only [eval_put_ne]); rfl
  exact gives_load_blk (.tmp 2) _ rfl Tryz.aggRTree Tryz.sizeRTree o1 (K0.out.ext (hdr.trans hx)) rfl (hK _ _ (Ext.refl _) rfl)
 case g2 =>
  intro v w1 hx (q1:v 1 = .agg #[.slice A t.basics.length capa,.slice B t.causes.length capb,.slice G t.gates.length capg])
  intro bb hbb
  subst hbb
  intro K hK
  go_simp
  refine gives_call (chances_any _ _ t (by omega) ⟨_,_,_,rfl,HT.out.ext (hdr.trans hx)⟩) ?_
  rintro e w2 ⟨x,rfl,h,hx2⟩
  exact ⟨_,rfl,hK _ _ hx2 h⟩
 case g3 =>
  intro v w1 hx (q0:v 0 = .agg #[.slice A t.basics.length capa,.slice B t.causes.length capb,.slice G t.gates.length capg]) (q1:v 1 = .agg #[.slice A t.basics.length capa,.slice B t.causes.length capb,.slice G t.gates.length capg]) (q2:IsInts w1 (v 2) t.chances)
  intro bb hbb
  subst hbb
  intro K hK
  go_simp
  refine gives_call ((by rw [← HM0.out]; exact weight_any w1 _ _ t t.chances HV.out.fit HV.out.nodes hsz HSM.out ⟨_,_,_,rfl,HT.out.ext (hdr.trans hx)⟩ q2:Calls Tryz.prog 104 #[.agg #[.slice A t.basics.length capa,.slice B t.causes.length capb,.slice G t.gates.length capg],v 2] w1 fun e w'=>e = .returned (.int .i64 m0) ∧ Ext w1 w')) ?_
  rintro e w2 ⟨rfl,hx2⟩
  exact ⟨_,rfl,hK _ _ hx2 rfl⟩
 case g4 =>
  intro v w1 hx (q0:v 0 = .agg #[.slice A t.basics.length capa,.slice B t.causes.length capb,.slice G t.gates.length capg]) (q1:v 1 = .agg #[.slice A t.basics.length capa,.slice B t.causes.length capb,.slice G t.gates.length capg]) (q2:IsInts w1 (v 2) t.chances) (q3:v 3 = .int .i64 m0)
  intro bb hbb
  subst hbb
  refine ⟨_,fun w=>?_,rfl⟩
  go_simp
 case post =>
  intro v w1 hx (q0:v 0 = .agg #[.slice A t.basics.length capa,.slice B t.causes.length capb,.slice G t.gates.length capg]) (q1:v 1 = .agg #[.slice A t.basics.length capa,.slice B t.causes.length capb,.slice G t.gates.length capg]) (q2:IsInts w1 (v 2) t.chances) (q3:v 3 = .int .i64 m0) (q4:v 4 = .int .i64 m0)
  simp only [Flow.All,Flow.acts,Act.put]
  go_simp
  have HX1:=Lib.hid (hdr.trans hx)
  obtain ⟨wa,hwa⟩:∃ x,w1 = x:=⟨_,rfl⟩
  rw [hwa] at HX1 ⊢
  clear hx hdr q0 q1 q2 q3 q4 hwa
  have HK1:=Lib.hid (K1.out.ext HX1.out)
  by_cases hz:m0 = 0
  · have HZ:=Lib.hid hz
    have hz0:(m0 == 0) = true:=by simp [hz]
    clear hz
    have hk1:=HK1.out
    go_wp2_with (refine wpList_store_blk rfl _ _ 56 rfl Tryz.sizeRat rfl rfl hk1 rfl rfl ?_ ?_; (focus (intro u hu; simp only [List.mem_cons,List.not_mem_nil,or_false] at hu; rcases hu with rfl | rfl <;> rfl)); intro w8 hb8 hl8 ho8)
    refine bodyPost_ret (results_blk_tmp Tryz.results40 rfl hb8 Tryz.aggRat Tryz.sizeRat rfl) rfl ?_
    exact ⟨⟨0,0⟩,6,rfl,.inl ⟨by rw [HW0.out,HZ.out],rfl,rfl⟩,Below.trans (HXW.out.trans HX1.out) (hl8 _ (by omega))⟩
  · have HZ:=Lib.hid hz
    have hz0:(m0 == 0) = false:=by simp [hz]
    have hz1:1 ≤ m0:=by omega
    clear hz
    have hdr:=(Ext.refl wa).drew
    go_wp2
    refine Flow.regionB0 [.world,.world,.world,.plain,.world,.world,.world,.plain,.world,.plain,.world,.plain,.plain] [0,1,2,3,4,5,6,7,8,9,10,11,12] [[],[],[1],[],[3],[1,2,3,4],[0,1,2,3,4,5],[0,1,2,3,4,5,6],[],[],[0,1,2,3,4,5,6,8,9],[0,1,2,3,4,5,6,7,8,9,10],[0,1,2,3,4,5,6,7,8,9,10,11]]
     [.is 0 (fun v=>.agg #[.slice A t.basics.length capa,.slice B t.causes.length capb,.slice G t.gates.length capg]),.is 1 (fun v=>.agg #[.slice A t.basics.length capa,.slice B t.causes.length capb,.slice G t.gates.length capg]),⟨fun v wz=>IsInts wz (v 2) t.chances,fun _ _ _ hx h=>h.ext hx⟩,.is 3 (fun v=>.int .i64 k),⟨fun v wz=>IsInts wz (v 4) [(k:Int)],fun _ _ _ hx h=>h.ext hx⟩,⟨fun v wz=>IsInts wz (v 5) (withEv t.chances [(k:Int)] 16),fun _ _ _ hx h=>h.ext hx⟩,.is 6 (fun v=>.int .i64 m1),.is 7 (fun v=>.int .i64 d),.is 8 (fun v=>.agg #[.slice A t.basics.length capa,.slice B t.causes.length capb,.slice G t.gates.length capg]),.is 9 (fun v=>.int .i64 k),.is 10 (fun v=>.int .i64 ch),.is 11 (fun v=>.int .i64 sw),.is 12 (fun v=>.int .i64 sw)]
     (by kernel_rfl) rfl (by kernel_rfl) ⟨?g0,?g1,?g2,?g3,?g4,?g5,?g6,?g7,?g8,?g9,?g10,?g11,?g12,trivial⟩ ?post
    case g0 =>
     intro v w1 hx
     intro bb hbb
     intro K hK
     have o1:bb.eval (.tmp 2) = .pointer (some ⟨w.heap.size,0,none⟩):=by rw [hbb]; dsimp only; (try simp (discharger:=decide) only [eval_put_ne]); rfl
     exact gives_load_blk (.tmp 2) _ rfl Tryz.aggRTree Tryz.sizeRTree o1 (K0.out.ext (HX1.out.trans (hdr.trans hx))) rfl (hK _ _ (Ext.refl _) rfl)
    case g1 =>
     intro v w1 hx
     intro bb hbb
     intro K hK
     have o1:bb.eval (.tmp 2) = .pointer (some ⟨w.heap.size,0,none⟩):=by rw [hbb]; dsimp only; (try simp (discharger:=decide) only [eval_put_ne]); rfl
     exact gives_load_blk (.tmp 2) _ rfl Tryz.aggRTree Tryz.sizeRTree o1 (K0.out.ext (HX1.out.trans (hdr.trans hx))) rfl (hK _ _ (Ext.refl _) rfl)
    case g2 =>
     intro v w1 hx (q1:v 1 = .agg #[.slice A t.basics.length capa,.slice B t.causes.length capb,.slice G t.gates.length capg])
     intro bb hbb
     subst hbb
     intro K hK
     go_simp
     refine gives_call (chances_any _ _ t (by omega) ⟨_,_,_,rfl,HT.out.ext (HX1.out.trans (hdr.trans hx))⟩) ?_
     rintro e w2 ⟨x,rfl,h,hx2⟩
     exact ⟨_,rfl,hK _ _ hx2 h⟩
    case g3 =>
     intro v w1 hx
     intro bb hbb
     subst hbb
     refine ⟨_,fun w=>?_,rfl⟩
     go_simp
    case g4 =>
     intro v w1 hx (q3:v 3 = .int .i64 k)
     intro bb hbb
     subst hbb
     intro K hK
     go_simp
     exact hK _ _ (Ext.box _ _) (ints_new (l:=[(k:Int)]) (by simp))
    case g5 =>
     intro v w1 hx (q1:v 1 = .agg #[.slice A t.basics.length capa,.slice B t.causes.length capb,.slice G t.gates.length capg]) (q2:IsInts w1 (v 2) t.chances) (q3:v 3 = .int .i64 k) (q4:IsInts w1 (v 4) [(k:Int)])
     intro bb hbb
     subst hbb
     intro K hK
     go_simp
     refine gives_call (with_any _ _ _ t.chances [(k:Int)] 16 HPOS.out HRNG.out q2 q4) ?_
     rintro e w2 ⟨x,rfl,h,hx2⟩
     exact ⟨_,rfl,hK _ _ hx2 h⟩
    case g6 =>
     intro v w1 hx (q0:v 0 = .agg #[.slice A t.basics.length capa,.slice B t.causes.length capb,.slice G t.gates.length capg]) (q1:v 1 = .agg #[.slice A t.basics.length capa,.slice B t.causes.length capb,.slice G t.gates.length capg]) (q2:IsInts w1 (v 2) t.chances) (q3:v 3 = .int .i64 k) (q4:IsInts w1 (v 4) [(k:Int)]) (q5:IsInts w1 (v 5) (withEv t.chances [(k:Int)] 16))
     intro bb hbb
     subst hbb
     intro K hK
     go_simp
     refine gives_call ((by rw [← HM1.out]; exact weight_any w1 _ _ t _ HV.out.fit HV.out.nodes hsz HS1.out ⟨_,_,_,rfl,HT.out.ext (HX1.out.trans (hdr.trans hx))⟩ q5:Calls Tryz.prog 104 #[.agg #[.slice A t.basics.length capa,.slice B t.causes.length capb,.slice G t.gates.length capg],v 5] w1 fun e w'=>e = .returned (.int .i64 m1) ∧ Ext w1 w')) ?_
     rintro e w2 ⟨rfl,hx2⟩
     exact ⟨_,rfl,hK _ _ hx2 rfl⟩
    case g7 =>
     intro v w1 hx (q0:v 0 = .agg #[.slice A t.basics.length capa,.slice B t.causes.length capb,.slice G t.gates.length capg]) (q1:v 1 = .agg #[.slice A t.basics.length capa,.slice B t.causes.length capb,.slice G t.gates.length capg]) (q2:IsInts w1 (v 2) t.chances) (q3:v 3 = .int .i64 k) (q4:IsInts w1 (v 4) [(k:Int)]) (q5:IsInts w1 (v 5) (withEv t.chances [(k:Int)] 16)) (q6:v 6 = .int .i64 m1)
     intro bb hbb
     subst hbb
     refine ⟨.int .i64 d,fun w=>?_,rfl⟩
     go_simp
     rw [Int.tdiv_eq_ediv_of_nonneg hb1.1,HD.out]
     exact wrap_in (by omega) (by omega)
    case g8 =>
     intro v w1 hx
     intro bb hbb
     intro K hK
     have o1:bb.eval (.tmp 2) = .pointer (some ⟨w.heap.size,0,none⟩):=by rw [hbb]; dsimp only; (try simp (discharger:=decide) only [eval_put_ne]); rfl
     exact gives_load_blk (.tmp 2) _ rfl Tryz.aggRTree Tryz.sizeRTree o1 (K0.out.ext (HX1.out.trans (hdr.trans hx))) rfl (hK _ _ (Ext.refl _) rfl)
    case g9 =>
     intro v w1 hx
     intro bb hbb
     subst hbb
     refine ⟨_,fun w=>?_,rfl⟩
     go_simp
    case g10 =>
     intro v w1 hx (q0:v 0 = .agg #[.slice A t.basics.length capa,.slice B t.causes.length capb,.slice G t.gates.length capg]) (q1:v 1 = .agg #[.slice A t.basics.length capa,.slice B t.causes.length capb,.slice G t.gates.length capg]) (q2:IsInts w1 (v 2) t.chances) (q3:v 3 = .int .i64 k) (q4:IsInts w1 (v 4) [(k:Int)]) (q5:IsInts w1 (v 5) (withEv t.chances [(k:Int)] 16)) (q6:v 6 = .int .i64 m1) (q8:v 8 = .agg #[.slice A t.basics.length capa,.slice B t.causes.length capb,.slice G t.gates.length capg]) (q9:v 9 = .int .i64 k)
     intro bb hbb
     subst hbb
     intro K hK
     go_simp
     refine gives_call ((by rw [← HCC.out]; exact chance_any w1 _ t k ⟨_,_,_,rfl,HT.out.ext (HX1.out.trans (hdr.trans hx))⟩ hk:Calls Tryz.prog 69 #[.agg #[.slice A t.basics.length capa,.slice B t.causes.length capb,.slice G t.gates.length capg],.int .i64 k] w1 fun e w'=>e = .returned (.int .i64 ch) ∧ Ext w1 w')) ?_
     rintro e w2 ⟨rfl,hx2⟩
     exact ⟨_,rfl,hK _ _ hx2 rfl⟩
    case g11 =>
     intro v w1 hx (q0:v 0 = .agg #[.slice A t.basics.length capa,.slice B t.causes.length capb,.slice G t.gates.length capg]) (q1:v 1 = .agg #[.slice A t.basics.length capa,.slice B t.causes.length capb,.slice G t.gates.length capg]) (q2:IsInts w1 (v 2) t.chances) (q3:v 3 = .int .i64 k) (q4:IsInts w1 (v 4) [(k:Int)]) (q5:IsInts w1 (v 5) (withEv t.chances [(k:Int)] 16)) (q6:v 6 = .int .i64 m1) (q7:v 7 = .int .i64 d) (q8:v 8 = .agg #[.slice A t.basics.length capa,.slice B t.causes.length capb,.slice G t.gates.length capg]) (q9:v 9 = .int .i64 k) (q10:v 10 = .int .i64 ch)
     intro bb hbb
     subst hbb
     refine ⟨.int .i64 sw,fun w=>?_,rfl⟩
     rw [HDC.out]
     rw [HDC.out] at hbs
     go_simp
     exact wrap_in (by omega) (by omega)
    case g12 =>
     intro v w1 hx (q0:v 0 = .agg #[.slice A t.basics.length capa,.slice B t.causes.length capb,.slice G t.gates.length capg]) (q1:v 1 = .agg #[.slice A t.basics.length capa,.slice B t.causes.length capb,.slice G t.gates.length capg]) (q2:IsInts w1 (v 2) t.chances) (q3:v 3 = .int .i64 k) (q4:IsInts w1 (v 4) [(k:Int)]) (q5:IsInts w1 (v 5) (withEv t.chances [(k:Int)] 16)) (q6:v 6 = .int .i64 m1) (q7:v 7 = .int .i64 d) (q8:v 8 = .agg #[.slice A t.basics.length capa,.slice B t.causes.length capb,.slice G t.gates.length capg]) (q9:v 9 = .int .i64 k) (q10:v 10 = .int .i64 ch) (q11:v 11 = .int .i64 sw)
     intro bb hbb
     subst hbb
     refine ⟨_,fun w=>?_,rfl⟩
     go_simp
    case post =>
     intro v w1 hx (q0:v 0 = .agg #[.slice A t.basics.length capa,.slice B t.causes.length capb,.slice G t.gates.length capg]) (q1:v 1 = .agg #[.slice A t.basics.length capa,.slice B t.causes.length capb,.slice G t.gates.length capg]) (q2:IsInts w1 (v 2) t.chances) (q3:v 3 = .int .i64 k) (q4:IsInts w1 (v 4) [(k:Int)]) (q5:IsInts w1 (v 5) (withEv t.chances [(k:Int)] 16)) (q6:v 6 = .int .i64 m1) (q7:v 7 = .int .i64 d) (q8:v 8 = .agg #[.slice A t.basics.length capa,.slice B t.causes.length capb,.slice G t.gates.length capg]) (q9:v 9 = .int .i64 k) (q10:v 10 = .int .i64 ch) (q11:v 11 = .int .i64 sw) (q12:v 12 = .int .i64 sw)
     simp only [Flow.All,Flow.acts,Act.put]
     go_simp
     have HX2:=Lib.hid (HX1.out.trans (hdr.trans hx))
     obtain ⟨wb,hwb⟩:∃ x,w1 = x:=⟨_,rfl⟩
     rw [hwb] at HX2 ⊢
     clear hx hdr q0 q1 q2 q3 q4 q5 q6 q7 q8 q9 q10 q11 q12 hwb HK1
     go_wp2_with fail
     refine (Lowest_any _ _ _ (by omega) (by omega) (by omega) (by omega)).mono ?_
     rintro e w6 ⟨rfl,hx6⟩
     have HX6:=Lib.hid (HX2.out.trans hx6)
     have HK1:=K1.out.ext HX6.out
     clear hx6
     go_wp2_with (refine wpList_store_blk rfl _ _ 56 rfl Tryz.sizeRat rfl rfl HK1 rfl rfl ?_ ?_; (focus (intro u hu; simp only [List.mem_cons,List.not_mem_nil,or_false] at hu; rcases hu with rfl | rfl <;> rfl)); intro w8 hb8 hl8 ho8)
     refine bodyPost_ret (results_blk_tmp Tryz.results40 rfl hb8 Tryz.aggRat Tryz.sizeRat rfl) rfl ?_
     exact ⟨lowest sw m0,0,rfl,.inr ⟨by rw [HW0.out]; exact HZ.out,by rw [HSW.out,HW0.out],rfl⟩,Below.trans (HXW.out.trans HX6.out) (hl8 _ (by omega))⟩
end Go.Proofs
namespace Go.Proofs
open Go.RowKit Go.Tw Go.Flow
def IfInts (w:World) (v:Value) (nc:Bool) (l:List Int):Prop:=nc = false → IsInts w v l
theorem IfInts.ext {w w':World} {v:Value} {nc:Bool} {l:List Int} (h:IfInts w v nc l) (hx:Ext w w'):IfInts w' v nc l:=fun hn=>(h hn).ext hx
set_option maxRecDepth 100000 in
set_option maxHeartbeats 4000000 in
theorem rCritical_any (w:World) (v:Value) (t:Tree) (k:Nat) (hv:Valid t) (hk:k < t.size) (ht:IsTree w v t) :
    Calls Tryz.prog 39 #[v,.int .i64 k] w fun e w'=>e = .returned (.int .i64 (critTo t k (pow2 t.size))) ∧ Ext w w':=by
 have HV:=Lib.hid hv
 have hsz:=hv.size
 have hp2:=pow2_le hsz
 clear hv
 obtain ⟨a,b,c,rfl,h3⟩:=ht
 obtain ⟨A,capa,rfl,hl1,hcap1,_⟩:=h3.basics.opened
 obtain ⟨B,capb,rfl,hl2,hcap2,_⟩:=h3.causes.opened
 obtain ⟨G,capg,rfl,hl3,hcap3,_⟩:=h3.gates.opened
 have HT0:=Lib.hid h3
 clear h3
 go_enter Tryz.func39,Tryz.ntmps39
 go_wp2_with fail
 change Code.wp _ _ _ _ (w.alloc (.cells #[.slice A t.basics.length capa,.slice B t.causes.length capb,.slice G t.gates.length capg] 26))
 have k0:=Blk.made w 26 #[.slice A t.basics.length capa,.slice B t.causes.length capb,.slice G t.gates.length capg]
 have x0:=Ext.box w (.cells #[.slice A t.basics.length capa,.slice B t.causes.length capb,.slice G t.gates.length capg] 26)
 have es0:(w.alloc (.cells #[.slice A t.basics.length capa,.slice B t.causes.length capb,.slice G t.gates.length capg] 26)).heap.size = w.heap.size + 1:=by simp
 obtain ⟨X0,hX0⟩:∃ X,w.alloc (.cells #[.slice A t.basics.length capa,.slice B t.causes.length capb,.slice G t.gates.length capg] 26) = X:=⟨_,rfl⟩
 rw [hX0] at k0 x0 es0 ⊢
 clear hX0
 have e0:X0.heap.size = w.heap.size + 1:=by omega
 have HXW:Hid (Ext w X0):=by exact (x0:Ext w X0)
 have eW:X0.heap.size = w.heap.size + 1:=e0
 clear x0 es0 e0
 obtain ⟨W,hWW⟩:∃ W,X0 = W:=⟨_,rfl⟩
 rw [hWW] at HXW eW ⊢ k0
 clear hWW
 have HT:=Lib.hid (HT0.out.ext HXW.out)
 have K0:=Lib.hid k0
 clear k0
 go_loopw [5,6] (fun o i wr=>∃ (s:Nat),s ≤ pow2 t.size ∧ i = .int .i64 s ∧ o = .int .i64 (critTo t k s) ∧ Ext W wr) (fun _ i _=>pow2 t.size - (intOf i).toNat)
 case atStart=>exact ⟨0,Nat.zero_le _,rfl,rfl,Ext.refl _⟩
 case round =>
  obtain ⟨s,hs,rfl,rfl,hx⟩:=hrel
  have hcr:=critTo_le t k s
  have HKX:=Lib.hid (K0.out.ext hx)
  have d0:=HKX.out.cell 0
  have d1:=HKX.out.cell 1
  have d2:=HKX.out.cell 2
  simp only [List.getElem?_toArray,List.getElem?_cons_zero,List.getElem?_cons_succ] at d0 d1 d2
  go_wp2_with fail
  refine (Size_any _ _ t ⟨_,_,_,rfl,HT.out.ext hx⟩).mono ?_
  rintro e wa ⟨rfl,hx1⟩
  have HX1:=Lib.hid (hx.trans hx1)
  clear hx hx1 d0 d1 d2 HKX
  go_wp2_with fail
  refine (power2_any _ _ hsz).mono ?_
  rintro e wa' ⟨rfl,rfl⟩
  by_cases hlt:s < pow2 t.size
  · have HBI:Hid (has (bitsOf s) (k:Int) = s.testBit k):=by exact (congrFun (evL_bits (s:=s) (by omega)) k:has (bitsOf s) (k:Int) = s.testBit k)
    have HST:Hid (critTo t k (s + 1) = critTo t k s + if critB t k s then 1 else 0):=by exact (rfl:critTo t k (s + 1) = _)
    have HE1:Hid (t.fails (evL (bitsOf s)) = t.fails (evN s)):=by exact (by rw [evL_bits (by omega)]:t.fails (evL (bitsOf s)) = t.fails (evN s))
    have HE2:Hid (t.fails (evL (removed (bitsOf s) (k:Int))) = t.fails (evN (clearB s (2 ^ k)))):=by exact (by rw [removed_ev (by omega)]:t.fails (evL (removed (bitsOf s) (k:Int))) = t.fails (evN (clearB s (2 ^ k))))
    have hcb:critB t k s = (s.testBit k && t.fails (evN s) && !t.fails (evN (clearB s (2 ^ k)))):=rfl
    have hst:=HST.out
    rw [hcb] at hst
    obtain ⟨f1,hf1⟩:∃ f,t.fails (evN s) = f:=⟨_,rfl⟩
    obtain ⟨f2,hf2⟩:∃ f,t.fails (evN (clearB s (2 ^ k))) = f:=⟨_,rfl⟩
    obtain ⟨nb,hnb⟩:∃ nb,(!s.testBit k) = nb:=⟨_,rfl⟩
    have hbn:s.testBit k = !nb:=by rw [← hnb,Bool.not_not]
    rw [hf1,hf2,hbn] at hst
    rw [hf1] at HE1
    rw [hf2] at HE2
    rw [hbn] at HBI
    obtain ⟨nc,hnc⟩:∃ nc,(!(!nb && f1)) = nc:=⟨_,rfl⟩
    have HNC:Hid ((!nb && f1) = !nc):=by exact (by rw [← hnc,Bool.not_not]:(!nb && f1) = !nc)
    rw [HNC.out] at hst
    replace HST:=Lib.hid hst
    obtain ⟨S,hS⟩:∃ S,critTo t k s = S:=⟨_,rfl⟩
    rw [hS] at HST hcr ⊢
    have hSI:(S:Int) ≤ 4096:=by omega
    have hsI:(s:Int) ≤ 4096:=by omega
    clear hcb hst hf1 hf2 hnb hbn hnc hS
    go_wp2_with fail
    refine (Members_any _ s (by omega)).mono ?_
    rintro e wb ⟨lv,rfl,hlv,hx2⟩
    have HX2:=Lib.hid (HX1.out.trans hx2)
    have HLV:=Lib.hid hlv
    have HH:Hid (∀ w',Ext wb w' → Calls Tryz.prog 97 #[lv,.int .i64 k] w' fun e w''=>e = .returned (.bool (!nb)) ∧ Ext w' w''):=by
     exact (fun w' hx=>(HasInt_any w' _ _ _ (HLV.out.ext hx)).mono (fun e w'' ⟨h1,h2⟩=>⟨by rw [h1,HBI.out],h2 ▸ Ext.refl _⟩):∀ w',Ext wb w' → Calls Tryz.prog 97 #[lv,.int .i64 k] w' fun e w''=>e = .returned (.bool (!nb)) ∧ Ext w' w'')
    have HF1:Hid (∀ w',Ext wb w' → Calls Tryz.prog 52 #[.agg #[.slice A t.basics.length capa,.slice B t.causes.length capb,.slice G t.gates.length capg],lv] w' fun e w''=>e = .returned (.bool f1) ∧ Ext w' w''):=by
     exact (fun w' hx=>(Fails_any w' _ _ t (bitsOf s) HV.out.fit HV.out.nodes ⟨_,_,_,rfl,HT.out.ext (HX2.out.trans hx)⟩ (HLV.out.ext hx)).mono (fun e w'' ⟨h1,h2⟩=>⟨by rw [h1,HE1.out],h2⟩):∀ w',Ext wb w' → Calls Tryz.prog 52 #[.agg #[.slice A t.basics.length capa,.slice B t.causes.length capb,.slice G t.gates.length capg],lv] w' fun e w''=>e = .returned (.bool f1) ∧ Ext w' w'')
    have HF2:Hid (∀ w' u,Ext wb w' → IsInts w' u (removed (bitsOf s) (k:Int)) → Calls Tryz.prog 52 #[.agg #[.slice A t.basics.length capa,.slice B t.causes.length capb,.slice G t.gates.length capg],u] w' fun e w''=>e = .returned (.bool f2) ∧ Ext w' w''):=by
     exact (fun w' u hx hu=>(Fails_any w' _ _ t _ HV.out.fit HV.out.nodes ⟨_,_,_,rfl,HT.out.ext (HX2.out.trans hx)⟩ hu).mono (fun e w'' ⟨h1,h2⟩=>⟨by rw [h1,HE2.out],h2⟩):∀ w' u,Ext wb w' → IsInts w' u (removed (bitsOf s) (k:Int)) → Calls Tryz.prog 52 #[.agg #[.slice A t.basics.length capa,.slice B t.causes.length capb,.slice G t.gates.length capg],u] w' fun e w''=>e = .returned (.bool f2) ∧ Ext w' w'')
    have HKY:=Lib.hid (K0.out.ext HX2.out)
    have hdr:=(Ext.refl wb).drew
    clear hlv hx2
    go_wp2
    refine Flow.regionB0 [.plain,.plain,.world,.plain,.world,.plain,.world,.plain,.plain,.world,.plain,.plain,.world,.world,.plain,.plain] [0,1,2,3,4,5,6,7,8,9,10,11,12,13,14,15] [[],[],[0,1],[0,1,2],[0,1,2,3],[0,1,2,3],[0,1,2,3,4,5],[0,1,2,3,4,5,6],[0,1,2,3,4,5,6,7],[0,1,2,3,4,5,6,7,8],[0,1,2,3,4,5,6,7,8],[0,1,2,3,4,5,6,7,8],[0,1,2,3,4,5,6,7,8,10,11],[0,1,2,3,4,5,6,7,8,9,10,11,12],[0,1,2,3,4,5,6,7,8,9,10,11,12,13],[0,1,2,3,4,5,6,7,8,9,10,11,12,13,14]]
     [.is 0 (fun v=>lv),.is 1 (fun v=>.int .i64 k),.is 2 (fun v=>.bool (!nb)),.is 3 (fun v=>.bool (!nb)),.is 4 (fun v=>selV nb (.agg #[.slice A t.basics.length capa,.slice B t.causes.length capb,.slice G t.gates.length capg])),.is 5 (fun v=>selV nb (lv)),.is 6 (fun v=>selV nb (.bool f1)),.is 7 (fun v=>.bool (!nb && f1)),.is 8 (fun v=>.bool (!nc)),.is 9 (fun v=>selV nc (.agg #[.slice A t.basics.length capa,.slice B t.causes.length capb,.slice G t.gates.length capg])),.is 10 (fun v=>selV nc (lv)),.is 11 (fun v=>selV nc (.int .i64 k)),⟨fun v wz=>IfInts wz (v 12) nc (removed (bitsOf s) (k:Int)),fun _ _ _ hx h=>h.ext hx⟩,.is 13 (fun v=>selV nc (.bool f2)),.is 14 (fun v=>selV nc (.bool (!f2))),.is 15 (fun v=>.bool (!nc && !f2))]
     (by kernel_rfl) rfl (by kernel_rfl) ⟨?g0,?g1,?g2,?g3,?g4,?g5,?g6,?g7,?g8,?g9,?g10,?g11,?g12,?g13,?g14,?g15,trivial⟩ ?post
    case g0 =>
     intro v w1 hx
     intro bb hbb
     subst hbb
     refine ⟨_,fun w=>?_,rfl⟩
     go_simp
    case g1 =>
     intro v w1 hx
     intro bb hbb
     subst hbb
     refine ⟨_,fun w=>?_,rfl⟩
     go_simp
    case g2 =>
     intro v w1 hx (q0:v 0 = lv) (q1:v 1 = .int .i64 k)
     intro bb hbb
     subst hbb
     intro K hK
     go_simp
     refine gives_call (HH.out w1 (hdr.trans hx)) ?_
     rintro e w2 ⟨rfl,hx2⟩
     exact ⟨_,rfl,hK _ _ hx2 rfl⟩
    case g3 =>
     intro v w1 hx (q0:v 0 = lv) (q1:v 1 = .int .i64 k) (q2:v 2 = .bool (!nb))
     intro bb hbb
     subst hbb
     refine ⟨_,fun w=>?_,rfl⟩
     go_simp
    case g4 =>
     intro v w1 hx (q0:v 0 = lv) (q1:v 1 = .int .i64 k) (q2:v 2 = .bool (!nb)) (q3:v 3 = .bool (!nb))
     intro bb hbb
     cases nb with
     | true=>exact Flow.guarded_no (d:=20) rfl rfl (by rw [hbb]; simp only [size_put]; exact (by decide:20 < 36)) (by rw [hbb]; dsimp only; (try simp (discharger:=decide) only [eval_put_ne]); rw [eval_put_eq (by simp only [size_put]; exact (by decide:20 < 36))]; exact q3) rfl
     | false =>
       refine Flow.guarded_yes (d:=20) rfl rfl (by rw [hbb]; simp only [size_put]; exact (by decide:20 < 36)) (by rw [hbb]; dsimp only; (try simp (discharger:=decide) only [eval_put_ne]); rw [eval_put_eq (by simp only [size_put]; exact (by decide:20 < 36))]; exact q3) ?_
       intro K hK
       have o1:bb.eval (.tmp 2) = .pointer (some ⟨w.heap.size,0,none⟩):=by rw [hbb]; dsimp only; (try simp (discharger:=decide) only [eval_put_ne]); rfl
       exact gives_load_blk (.tmp 2) _ rfl Tryz.aggRTree Tryz.sizeRTree o1 (HKY.out.ext (hdr.trans hx)) rfl (hK _ _ (Ext.refl _) rfl)
    case g5 =>
     intro v w1 hx (q0:v 0 = lv) (q1:v 1 = .int .i64 k) (q2:v 2 = .bool (!nb)) (q3:v 3 = .bool (!nb))
     intro bb hbb
     cases nb with
     | true=>exact Flow.guarded_no (d:=20) rfl rfl (by rw [hbb]; simp only [size_put]; exact (by decide:20 < 36)) (by rw [hbb]; dsimp only; (try simp (discharger:=decide) only [eval_put_ne]); rw [eval_put_eq (by simp only [size_put]; exact (by decide:20 < 36))]; exact q3) rfl
     | false =>
       refine Flow.guarded_yes (d:=20) rfl rfl (by rw [hbb]; simp only [size_put]; exact (by decide:20 < 36)) (by rw [hbb]; dsimp only; (try simp (discharger:=decide) only [eval_put_ne]); rw [eval_put_eq (by simp only [size_put]; exact (by decide:20 < 36))]; exact q3) ?_
       subst hbb
       refine ⟨_,fun w=>?_,rfl⟩
       go_simp
    case g6 =>
     intro v w1 hx (q0:v 0 = lv) (q1:v 1 = .int .i64 k) (q2:v 2 = .bool (!nb)) (q3:v 3 = .bool (!nb)) (q4:v 4 = selV nb (.agg #[.slice A t.basics.length capa,.slice B t.causes.length capb,.slice G t.gates.length capg])) (q5:v 5 = selV nb (lv))
     intro bb hbb
     cases nb with
     | true=>exact Flow.guarded_no (d:=20) rfl rfl (by rw [hbb]; simp only [size_put]; exact (by decide:20 < 36)) (by rw [hbb]; dsimp only; (try simp (discharger:=decide) only [eval_put_ne]); rw [eval_put_eq (by simp only [size_put]; exact (by decide:20 < 36))]; exact q3) rfl
     | false =>
       replace q4:v 4 = .agg #[.slice A t.basics.length capa,.slice B t.causes.length capb,.slice G t.gates.length capg]:=q4
       replace q5:v 5 = lv:=q5
       refine Flow.guarded_yes (d:=20) rfl rfl (by rw [hbb]; simp only [size_put]; exact (by decide:20 < 36)) (by rw [hbb]; dsimp only; (try simp (discharger:=decide) only [eval_put_ne]); rw [eval_put_eq (by simp only [size_put]; exact (by decide:20 < 36))]; exact q3) ?_
       subst hbb
       intro K hK
       go_simp
       refine gives_call (HF1.out w1 (hdr.trans hx)) ?_
       rintro e w2 ⟨rfl,hx2⟩
       exact ⟨_,rfl,hK _ _ hx2 rfl⟩
    case g7 =>
     intro v w1 hx (q0:v 0 = lv) (q1:v 1 = .int .i64 k) (q2:v 2 = .bool (!nb)) (q3:v 3 = .bool (!nb)) (q4:v 4 = selV nb (.agg #[.slice A t.basics.length capa,.slice B t.causes.length capb,.slice G t.gates.length capg])) (q5:v 5 = selV nb (lv)) (q6:v 6 = selV nb (.bool f1))
     intro bb hbb
     subst hbb
     refine ⟨.bool (!nb && f1),fun w=>?_,rfl⟩
     cases nb with
     | true=>go_simp
     | false=>go_simp; rfl
    case g8 =>
     intro v w1 hx (q0:v 0 = lv) (q1:v 1 = .int .i64 k) (q2:v 2 = .bool (!nb)) (q3:v 3 = .bool (!nb)) (q4:v 4 = selV nb (.agg #[.slice A t.basics.length capa,.slice B t.causes.length capb,.slice G t.gates.length capg])) (q5:v 5 = selV nb (lv)) (q6:v 6 = selV nb (.bool f1)) (q7:v 7 = .bool (!nb && f1))
     intro bb hbb
     subst hbb
     have e7:v 7 = .bool (!nc):=q7.trans (congrArg Value.bool HNC.out)
     clear q7
     refine ⟨_,fun w=>?_,rfl⟩
     go_simp
    case g9 =>
     intro v w1 hx (q0:v 0 = lv) (q1:v 1 = .int .i64 k) (q2:v 2 = .bool (!nb)) (q3:v 3 = .bool (!nb)) (q4:v 4 = selV nb (.agg #[.slice A t.basics.length capa,.slice B t.causes.length capb,.slice G t.gates.length capg])) (q5:v 5 = selV nb (lv)) (q6:v 6 = selV nb (.bool f1)) (q7:v 7 = .bool (!nb && f1)) (q8:v 8 = .bool (!nc))
     intro bb hbb
     cases nc with
     | true=>exact Flow.guarded_no (d:=25) rfl rfl (by rw [hbb]; simp only [size_put]; exact (by decide:25 < 36)) (by rw [hbb]; dsimp only; (try simp (discharger:=decide) only [eval_put_ne]); rw [eval_put_eq (by simp only [size_put]; exact (by decide:25 < 36))]; exact q8) rfl
     | false =>
       refine Flow.guarded_yes (d:=25) rfl rfl (by rw [hbb]; simp only [size_put]; exact (by decide:25 < 36)) (by rw [hbb]; dsimp only; (try simp (discharger:=decide) only [eval_put_ne]); rw [eval_put_eq (by simp only [size_put]; exact (by decide:25 < 36))]; exact q8) ?_
       intro K hK
       have o1:bb.eval (.tmp 2) = .pointer (some ⟨w.heap.size,0,none⟩):=by rw [hbb]; dsimp only; (try simp (discharger:=decide) only [eval_put_ne]); rfl
       exact gives_load_blk (.tmp 2) _ rfl Tryz.aggRTree Tryz.sizeRTree o1 (HKY.out.ext (hdr.trans hx)) rfl (hK _ _ (Ext.refl _) rfl)
    case g10 =>
     intro v w1 hx (q0:v 0 = lv) (q1:v 1 = .int .i64 k) (q2:v 2 = .bool (!nb)) (q3:v 3 = .bool (!nb)) (q4:v 4 = selV nb (.agg #[.slice A t.basics.length capa,.slice B t.causes.length capb,.slice G t.gates.length capg])) (q5:v 5 = selV nb (lv)) (q6:v 6 = selV nb (.bool f1)) (q7:v 7 = .bool (!nb && f1)) (q8:v 8 = .bool (!nc))
     intro bb hbb
     cases nc with
     | true=>exact Flow.guarded_no (d:=25) rfl rfl (by rw [hbb]; simp only [size_put]; exact (by decide:25 < 36)) (by rw [hbb]; dsimp only; (try simp (discharger:=decide) only [eval_put_ne]); rw [eval_put_eq (by simp only [size_put]; exact (by decide:25 < 36))]; exact q8) rfl
     | false =>
       refine Flow.guarded_yes (d:=25) rfl rfl (by rw [hbb]; simp only [size_put]; exact (by decide:25 < 36)) (by rw [hbb]; dsimp only; (try simp (discharger:=decide) only [eval_put_ne]); rw [eval_put_eq (by simp only [size_put]; exact (by decide:25 < 36))]; exact q8) ?_
       subst hbb
       refine ⟨_,fun w=>?_,rfl⟩
       go_simp
    case g11 =>
     intro v w1 hx (q0:v 0 = lv) (q1:v 1 = .int .i64 k) (q2:v 2 = .bool (!nb)) (q3:v 3 = .bool (!nb)) (q4:v 4 = selV nb (.agg #[.slice A t.basics.length capa,.slice B t.causes.length capb,.slice G t.gates.length capg])) (q5:v 5 = selV nb (lv)) (q6:v 6 = selV nb (.bool f1)) (q7:v 7 = .bool (!nb && f1)) (q8:v 8 = .bool (!nc))
     intro bb hbb
     cases nc with
     | true=>exact Flow.guarded_no (d:=25) rfl rfl (by rw [hbb]; simp only [size_put]; exact (by decide:25 < 36)) (by rw [hbb]; dsimp only; (try simp (discharger:=decide) only [eval_put_ne]); rw [eval_put_eq (by simp only [size_put]; exact (by decide:25 < 36))]; exact q8) rfl
     | false =>
       refine Flow.guarded_yes (d:=25) rfl rfl (by rw [hbb]; simp only [size_put]; exact (by decide:25 < 36)) (by rw [hbb]; dsimp only; (try simp (discharger:=decide) only [eval_put_ne]); rw [eval_put_eq (by simp only [size_put]; exact (by decide:25 < 36))]; exact q8) ?_
       subst hbb
       refine ⟨_,fun w=>?_,rfl⟩
       go_simp
    case g12 =>
     intro v w1 hx (q0:v 0 = lv) (q1:v 1 = .int .i64 k) (q2:v 2 = .bool (!nb)) (q3:v 3 = .bool (!nb)) (q4:v 4 = selV nb (.agg #[.slice A t.basics.length capa,.slice B t.causes.length capb,.slice G t.gates.length capg])) (q5:v 5 = selV nb (lv)) (q6:v 6 = selV nb (.bool f1)) (q7:v 7 = .bool (!nb && f1)) (q8:v 8 = .bool (!nc)) (q10:v 10 = selV nc (lv)) (q11:v 11 = selV nc (.int .i64 k))
     intro bb hbb
     cases nc with
     | true=>exact Flow.guarded_no (d:=25) rfl rfl (by rw [hbb]; simp only [size_put]; exact (by decide:25 < 36)) (by rw [hbb]; dsimp only; (try simp (discharger:=decide) only [eval_put_ne]); rw [eval_put_eq (by simp only [size_put]; exact (by decide:25 < 36))]; exact q8) (fun h=>by cases h)
     | false =>
       replace q10:v 10 = lv:=q10
       replace q11:v 11 = .int .i64 k:=q11
       refine Flow.guarded_yes (d:=25) rfl rfl (by rw [hbb]; simp only [size_put]; exact (by decide:25 < 36)) (by rw [hbb]; dsimp only; (try simp (discharger:=decide) only [eval_put_ne]); rw [eval_put_eq (by simp only [size_put]; exact (by decide:25 < 36))]; exact q8) ?_
       subst hbb
       intro K hK
       go_simp
       refine gives_call (remove_any w1 _ _ _ (HLV.out.ext (hdr.trans hx))) ?_
       rintro e w2 ⟨x,rfl,h,hx2⟩
       exact ⟨_,rfl,hK _ _ hx2 (fun _=>h)⟩
    case g13 =>
     intro v w1 hx (q0:v 0 = lv) (q1:v 1 = .int .i64 k) (q2:v 2 = .bool (!nb)) (q3:v 3 = .bool (!nb)) (q4:v 4 = selV nb (.agg #[.slice A t.basics.length capa,.slice B t.causes.length capb,.slice G t.gates.length capg])) (q5:v 5 = selV nb (lv)) (q6:v 6 = selV nb (.bool f1)) (q7:v 7 = .bool (!nb && f1)) (q8:v 8 = .bool (!nc)) (q9:v 9 = selV nc (.agg #[.slice A t.basics.length capa,.slice B t.causes.length capb,.slice G t.gates.length capg])) (q10:v 10 = selV nc (lv)) (q11:v 11 = selV nc (.int .i64 k)) (q12:IfInts w1 (v 12) nc (removed (bitsOf s) (k:Int)))
     intro bb hbb
     cases nc with
     | true=>exact Flow.guarded_no (d:=25) rfl rfl (by rw [hbb]; simp only [size_put]; exact (by decide:25 < 36)) (by rw [hbb]; dsimp only; (try simp (discharger:=decide) only [eval_put_ne]); rw [eval_put_eq (by simp only [size_put]; exact (by decide:25 < 36))]; exact q8) rfl
     | false =>
       replace q9:v 9 = .agg #[.slice A t.basics.length capa,.slice B t.causes.length capb,.slice G t.gates.length capg]:=q9
       replace q10:v 10 = lv:=q10
       replace q11:v 11 = .int .i64 k:=q11
       refine Flow.guarded_yes (d:=25) rfl rfl (by rw [hbb]; simp only [size_put]; exact (by decide:25 < 36)) (by rw [hbb]; dsimp only; (try simp (discharger:=decide) only [eval_put_ne]); rw [eval_put_eq (by simp only [size_put]; exact (by decide:25 < 36))]; exact q8) ?_
       subst hbb
       intro K hK
       go_simp
       refine gives_call (HF2.out w1 _ (hdr.trans hx) (q12 rfl)) ?_
       rintro e w2 ⟨rfl,hx2⟩
       exact ⟨_,rfl,hK _ _ hx2 rfl⟩
    case g14 =>
     intro v w1 hx (q0:v 0 = lv) (q1:v 1 = .int .i64 k) (q2:v 2 = .bool (!nb)) (q3:v 3 = .bool (!nb)) (q4:v 4 = selV nb (.agg #[.slice A t.basics.length capa,.slice B t.causes.length capb,.slice G t.gates.length capg])) (q5:v 5 = selV nb (lv)) (q6:v 6 = selV nb (.bool f1)) (q7:v 7 = .bool (!nb && f1)) (q8:v 8 = .bool (!nc)) (q9:v 9 = selV nc (.agg #[.slice A t.basics.length capa,.slice B t.causes.length capb,.slice G t.gates.length capg])) (q10:v 10 = selV nc (lv)) (q11:v 11 = selV nc (.int .i64 k)) (q12:IfInts w1 (v 12) nc (removed (bitsOf s) (k:Int))) (q13:v 13 = selV nc (.bool f2))
     intro bb hbb
     cases nc with
     | true=>exact Flow.guarded_no (d:=25) rfl rfl (by rw [hbb]; simp only [size_put]; exact (by decide:25 < 36)) (by rw [hbb]; dsimp only; (try simp (discharger:=decide) only [eval_put_ne]); rw [eval_put_eq (by simp only [size_put]; exact (by decide:25 < 36))]; exact q8) rfl
     | false =>
       replace q9:v 9 = .agg #[.slice A t.basics.length capa,.slice B t.causes.length capb,.slice G t.gates.length capg]:=q9
       replace q10:v 10 = lv:=q10
       replace q11:v 11 = .int .i64 k:=q11
       replace q13:v 13 = .bool f2:=q13
       refine Flow.guarded_yes (d:=25) rfl rfl (by rw [hbb]; simp only [size_put]; exact (by decide:25 < 36)) (by rw [hbb]; dsimp only; (try simp (discharger:=decide) only [eval_put_ne]); rw [eval_put_eq (by simp only [size_put]; exact (by decide:25 < 36))]; exact q8) ?_
       subst hbb
       refine ⟨_,fun w=>?_,rfl⟩
       go_simp
    case g15 =>
     intro v w1 hx (q0:v 0 = lv) (q1:v 1 = .int .i64 k) (q2:v 2 = .bool (!nb)) (q3:v 3 = .bool (!nb)) (q4:v 4 = selV nb (.agg #[.slice A t.basics.length capa,.slice B t.causes.length capb,.slice G t.gates.length capg])) (q5:v 5 = selV nb (lv)) (q6:v 6 = selV nb (.bool f1)) (q7:v 7 = .bool (!nb && f1)) (q8:v 8 = .bool (!nc)) (q9:v 9 = selV nc (.agg #[.slice A t.basics.length capa,.slice B t.causes.length capb,.slice G t.gates.length capg])) (q10:v 10 = selV nc (lv)) (q11:v 11 = selV nc (.int .i64 k)) (q12:IfInts w1 (v 12) nc (removed (bitsOf s) (k:Int))) (q13:v 13 = selV nc (.bool f2)) (q14:v 14 = selV nc (.bool (!f2)))
     intro bb hbb
     subst hbb
     refine ⟨.bool (!nc && !f2),fun w=>?_,rfl⟩
     cases nc with
     | true=>go_simp
     | false=>go_simp; rfl
    case post =>
     intro v w1 hx (q0:v 0 = lv) (q1:v 1 = .int .i64 k) (q2:v 2 = .bool (!nb)) (q3:v 3 = .bool (!nb)) (q4:v 4 = selV nb (.agg #[.slice A t.basics.length capa,.slice B t.causes.length capb,.slice G t.gates.length capg])) (q5:v 5 = selV nb (lv)) (q6:v 6 = selV nb (.bool f1)) (q7:v 7 = .bool (!nb && f1)) (q8:v 8 = .bool (!nc)) (q9:v 9 = selV nc (.agg #[.slice A t.basics.length capa,.slice B t.causes.length capb,.slice G t.gates.length capg])) (q10:v 10 = selV nc (lv)) (q11:v 11 = selV nc (.int .i64 k)) (q12:IfInts w1 (v 12) nc (removed (bitsOf s) (k:Int))) (q13:v 13 = selV nc (.bool f2)) (q14:v 14 = selV nc (.bool (!f2))) (q15:v 15 = .bool (!nc && !f2))
     simp only [Flow.All,Flow.acts,Act.put]
     go_simp
     have HX9:=Lib.hid (HX2.out.trans (hdr.trans hx))
     obtain ⟨r,hr⟩:∃ r,(!nc && !f2) = r:=⟨_,rfl⟩
     rw [hr] at HST
     rw [hr]
     clear hr hx hdr
     cases r with
     | false =>
       go_wp2
       go_roundw
       case rel=>exact ⟨s + 1,by omega,by go_num,by rw [HST.out,if_neg (by decide),Nat.add_zero],HX9.out⟩
       case measure=>simp [intOf]; omega
     | true =>
       go_wp2
       go_roundw
       case rel=>exact ⟨s + 1,by omega,by go_num,by rw [HST.out]; go_num,HX9.out⟩
       case measure=>simp [intOf]; omega
  · have hse:s = pow2 t.size:=by omega
    subst hse
    go_wp2
    go_ret
    exact ⟨rfl,HXW.out.trans HX1.out⟩
end Go.Proofs
namespace Go.Proofs
open Go.RowKit Go.Tw Go.Flow
theorem lwhen_any (w:World) (b:Bool) (x:Int) :
    Calls Tryz.prog 103 #[.bool b,.int .i64 x] w fun e w'=>e = .returned (.int .i64 (if b then x else 0)) ∧ w = w':=by
 go_enter Tryz.func103,Tryz.ntmps103
 cases b <;> go_wp2 <;> go_ret <;> exact ⟨rfl,rfl⟩
theorem event_err (t:Tree) (n:Int):treeSetErr t [n] = firstErr [t.err,if decide (n < 0) || decide ((t.size:Int) ≤ n) then 10 else 0]:=by
 unfold treeSetErr setErr outB
 simp only [firstErr,List.any_cons,List.any_nil,Bool.or_false,ascB,Bool.decide_or]
 by_cases he:t.err = 0
 · rw [if_pos he,if_pos he]
   generalize (decide (n < 0) || decide ((t.size:Int) ≤ n)) = b
   cases b <;> rfl
 · rw [if_neg he,if_neg he]
set_option maxRecDepth 100000 in
set_option maxHeartbeats 4000000 in
theorem event_any (w:World) (v:Value) (t:Tree) (n:Int) (ht:IsTree w v t) :
    Calls Tryz.prog 37 #[v,.int .i64 n] w fun e w'=>e = .returned (.int .i64 (treeSetErr t [n])) ∧ Ext w w':=by
 have HE:=Lib.hid (event_err t n)
 obtain ⟨a,b,c,rfl,h3⟩:=ht
 obtain ⟨A,capa,rfl,hl1,hcap1,_⟩:=h3.basics.opened
 obtain ⟨B,capb,rfl,hl2,hcap2,_⟩:=h3.causes.opened
 obtain ⟨G,capg,rfl,hl3,hcap3,_⟩:=h3.gates.opened
 have HT0:=Lib.hid h3
 clear h3
 go_enter Tryz.func37,Tryz.ntmps37
 go_wp2_with fail
 change Calls _ _ _ (w.alloc (.cells #[.slice A t.basics.length capa,.slice B t.causes.length capb,.slice G t.gates.length capg] 26)) _
 have k0:=Blk.made w 26 #[.slice A t.basics.length capa,.slice B t.causes.length capb,.slice G t.gates.length capg]
 have x0:=Ext.box w (.cells #[.slice A t.basics.length capa,.slice B t.causes.length capb,.slice G t.gates.length capg] 26)
 have es0:(w.alloc (.cells #[.slice A t.basics.length capa,.slice B t.causes.length capb,.slice G t.gates.length capg] 26)).heap.size = w.heap.size + 1:=by simp
 obtain ⟨X0,hX0⟩:∃ X,w.alloc (.cells #[.slice A t.basics.length capa,.slice B t.causes.length capb,.slice G t.gates.length capg] 26) = X:=⟨_,rfl⟩
 rw [hX0] at k0 x0 es0 ⊢
 clear hX0
 have e0:X0.heap.size = w.heap.size + 1:=by omega
 have HXW:Hid (Ext w X0):=by exact (x0:Ext w X0)
 have eW:X0.heap.size = w.heap.size + 1:=e0
 clear x0 es0 e0
 obtain ⟨W,hWW⟩:∃ W,X0 = W:=⟨_,rfl⟩
 rw [hWW] at HXW eW ⊢ k0
 clear hWW
 have HT:=Lib.hid (HT0.out.ext HXW.out)
 have K0:=Lib.hid k0
 clear k0
 refine (rCheckTree_any _ _ t ⟨_,_,_,rfl,HT.out⟩).mono ?_
 rintro e wa ⟨rfl,hx1⟩
 have HX1:=Lib.hid hx1
 have HKX:=Lib.hid (K0.out.ext hx1)
 obtain ⟨E,hE⟩:∃ x,t.err = x:=⟨_,rfl⟩
 rw [hE] at HE ⊢
 clear hx1 hE
 by_cases hn:n < 0
 · have hd:decide (n < 0) = true:=by simp [hn]
   rw [hd,Bool.true_or,if_pos rfl] at HE
   clear hd
   go_wp2_with fail
   refine (lwhen_any _ _ _).mono ?_
   rintro e wb ⟨rfl,rfl⟩
   go_wp2_with fail
   refine (First_any _ _ [E,10] (ints_new (l:=[E,10]) (by simp))).mono ?_
   rintro e wc ⟨rfl,rfl⟩
   go_wp2
   go_ret
   exact ⟨by first | (rw [HE.out]; done) | (rw [HE.out]; rfl) | (rw [HE.out]; simp; done),(HXW.out.trans HX1.out).trans (Ext.box _ _)⟩
 · have hd:decide (n < 0) = false:=by simp [hn]
   rw [hd,Bool.false_or] at HE
   have d0:=HKX.out.cell 0
   have d1:=HKX.out.cell 1
   have d2:=HKX.out.cell 2
   simp only [List.getElem?_toArray,List.getElem?_cons_zero,List.getElem?_cons_succ] at d0 d1 d2
   clear hd
   go_wp2_with fail
   refine (Size_any _ _ t ⟨_,_,_,rfl,HT.out.ext HX1.out⟩).mono ?_
   rintro e wb ⟨rfl,hx2⟩
   have HX2:=Lib.hid (HX1.out.trans hx2)
   clear hx2 d0 d1 d2
   by_cases hs:(t.size:Int) ≤ n
   · have hd:decide ((t.size:Int) ≤ n) = true:=by simp [hs]
     rw [hd,if_pos rfl] at HE
     clear hd
     go_wp2_with fail
     refine (lwhen_any _ _ _).mono ?_
     rintro e wc ⟨rfl,rfl⟩
     go_wp2_with fail
     refine (First_any _ _ [E,10] (ints_new (l:=[E,10]) (by simp))).mono ?_
     rintro e wd ⟨rfl,rfl⟩
     go_wp2
     go_ret
     exact ⟨by first | (rw [HE.out]; done) | (rw [HE.out]; rfl) | (rw [HE.out]; simp; done),(HXW.out.trans HX2.out).trans (Ext.box _ _)⟩
   · have hd:decide ((t.size:Int) ≤ n) = false:=by simp [hs]
     rw [hd,if_neg (by decide)] at HE
     clear hd
     go_wp2_with fail
     refine (lwhen_any _ _ _).mono ?_
     rintro e wc ⟨rfl,rfl⟩
     go_wp2_with fail
     refine (First_any _ _ [E,0] (ints_new (l:=[E,0]) (by simp))).mono ?_
     rintro e wd ⟨rfl,rfl⟩
     go_wp2
     go_ret
     exact ⟨by first | (rw [HE.out]; done) | (rw [HE.out]; rfl) | (rw [HE.out]; simp; done),(HXW.out.trans HX2.out).trans (Ext.box _ _)⟩
end Go.Proofs
namespace Go.Proofs
open Go.RowKit Go.Tw Go.Flow
theorem ev_ok {t:Tree} {n:Int} (h:treeSetErr t [n] = 0):t.err = 0 ∧ 0 ≤ n ∧ n < t.size:=by
 unfold treeSetErr at h
 by_cases he:t.err = 0
 · rw [if_pos he] at h
   have:=(setErr_zero h).1 n (by simp)
   exact ⟨he,this.1,this.2⟩
 · rw [if_neg he] at h; exact absurd h he
theorem lImportance (w:World) (u:Value) (t:Tree) (n a b:Int) (hC:importanceR t n = ⟨a,b⟩) (hu:IsTree w u t) :
    Calls Tryz.prog 34 #[u,.int .i64 n] w fun e w'=>e = .returned (.tuple #[.agg #[.int .i64 a,.int .i64 b],.int .i64 (treeSetErr t [n])]) ∧ Ext w w':=by
 have h:=pImportance_any w u t n hu (fun h=>by
  obtain ⟨he,h0,h1⟩:=ev_ok h
  obtain ⟨k,rfl⟩:∃ k:Nat,n = (k:Int):=⟨n.toNat,by omega⟩
  have:=imp_nonneg (Valid.of he) (k:=k) (by omega)
  rw [impW_eq]
  omega)
 rw [hC] at h
 exact h
theorem lCritical (w:World) (u:Value) (t:Tree) (n c:Int) (hC:(criticalR t n:Int) = c) (hu:IsTree w u t) :
    Calls Tryz.prog 35 #[u,.int .i64 n] w fun e w'=>e = .returned (.tuple #[.int .i64 c,.int .i64 (treeSetErr t [n])]) ∧ Ext w w':=by
 have h:=pCritical_any w u t n hu
 rw [hC] at h
 exact h
theorem lShare (w:World) (u:Value) (t:Tree) (n a b:Int) (hC:shareR t n = ⟨a,b⟩) (hu:IsTree w u t) :
    Calls Tryz.prog 36 #[u,.int .i64 n] w fun e w'=>e = .returned (.tuple #[.agg #[.int .i64 a,.int .i64 b],.int .i64 (shareErr t n)]) ∧ Ext w w':=by
 have h:=pShare_any w u t n hu
 rw [hC] at h
 exact h
theorem rI (w:World) (u:Value) (t:Tree) (k:Nat) (a b:Int) (hC:importanceR t k = ⟨a,b⟩) (he:treeSetErr t [(k:Int)] = 0) (hu:IsTree w u t) :
    Calls Tryz.prog 38 #[u,.int .i64 k] w fun e w'=>e = .returned (.agg #[.int .i64 a,.int .i64 b]) ∧ Ext w w':=by
 have h:=rImportance_any w u t k (Valid.of (ev_ok he).1) (by have:=(ev_ok he).2.2; omega) hu
 unfold importanceR at hC
 rw [if_pos he] at hC
 rw [hC] at h
 exact h
theorem rC (w:World) (u:Value) (t:Tree) (k:Nat) (c:Int) (hC:(criticalR t k:Int) = c) (he:treeSetErr t [(k:Int)] = 0) (hu:IsTree w u t) :
    Calls Tryz.prog 39 #[u,.int .i64 k] w fun e w'=>e = .returned (.int .i64 c) ∧ Ext w w':=by
 have h:=rCritical_any w u t k (Valid.of (ev_ok he).1) (by have:=(ev_ok he).2.2; omega) hu
 unfold criticalR at hC
 rw [if_pos he,critC_to,Int.toNat_natCast] at hC
 rw [show critTo t k (pow2 t.size) = critTo t k (2 ^ t.size) from rfl,hC] at h
 exact h
theorem rS (w:World) (u:Value) (t:Tree) (k:Nat) (a b x:Int) (hC:shareR t k = ⟨a,b⟩) (hX:shareErr t k = x) (he:treeSetErr t [(k:Int)] = 0) (hu:IsTree w u t) :
    Calls Tryz.prog 40 #[u,.int .i64 k] w fun e w'=>e = .returned (.tuple #[.agg #[.int .i64 a,.int .i64 b],.int .i64 x]) ∧ Ext w w':=by
 refine (rShare_any w u t k (Valid.of (ev_ok he).1) (by have:=(ev_ok he).2.2; omega) hu).mono ?_
 rintro e w' ⟨r,x',rfl,h,hx⟩
 refine ⟨?_,hx⟩
 have key:r = ⟨a,b⟩ ∧ x' = x:=by
  unfold shareR at hC
  unfold shareErr at hX
  rw [if_pos he] at hC hX
  rcases h with ⟨h0,rfl,rfl⟩ | ⟨h0,rfl,rfl⟩
  · rw [if_pos h0] at hC hX
    exact ⟨hC,hX⟩
  · rw [if_neg h0] at hC hX
    exact ⟨hC,hX⟩
 obtain ⟨rfl,rfl⟩:=key
 rfl
set_option maxRecDepth 100000 in
set_option maxHeartbeats 8000000 in
theorem faultImportances_any (w:World) (v:Value) (t:Tree) (n:Int) (ht:IsTree w v t) (hT:Tab w) :
    Calls Tryz.prog 6 #[v,.int .i64 n] w fun e w'=>e = .returned (.bool true) ∧ Ext w w':=by
 obtain ⟨a,b,c,rfl,h3⟩:=ht
 obtain ⟨A,capa,rfl,hl1,hcap1,_⟩:=h3.basics.opened
 obtain ⟨B,capb,rfl,hl2,hcap2,_⟩:=h3.causes.opened
 obtain ⟨G,capg,rfl,hl3,hcap3,_⟩:=h3.gates.opened
 have HT0:=Lib.hid h3
 clear h3
 have HTAB:=Lib.hid hT
 have HTAB0:=Lib.hid hT
 clear hT
 go_enter Tryz.func6,Tryz.ntmps6
 go_wp2_with fail
 change Calls _ _ _ (w.alloc (.cells #[.slice A t.basics.length capa,.slice B t.causes.length capb,.slice G t.gates.length capg] 26)) _
 have k0:=Blk.made w 26 #[.slice A t.basics.length capa,.slice B t.causes.length capb,.slice G t.gates.length capg]
 have x0:=Ext.box w (.cells #[.slice A t.basics.length capa,.slice B t.causes.length capb,.slice G t.gates.length capg] 26)
 have es0:(w.alloc (.cells #[.slice A t.basics.length capa,.slice B t.causes.length capb,.slice G t.gates.length capg] 26)).heap.size = w.heap.size + 1:=by simp
 obtain ⟨X0,hX0⟩:∃ X,w.alloc (.cells #[.slice A t.basics.length capa,.slice B t.causes.length capb,.slice G t.gates.length capg] 26) = X:=⟨_,rfl⟩
 rw [hX0] at k0 x0 es0 ⊢
 clear hX0
 have e0:X0.heap.size = w.heap.size + 1:=by omega
 have HXW:Hid (Ext w X0):=by exact (x0:Ext w X0)
 have eW:X0.heap.size = w.heap.size + 1:=e0
 clear x0 es0 e0
 obtain ⟨W,hWW⟩:∃ W,X0 = W:=⟨_,rfl⟩
 rw [hWW] at HXW eW ⊢ k0
 clear hWW
 obtain ⟨WB,hWB⟩:∃ X,W = X:=⟨_,rfl⟩
 rw [hWB] at HXW eW k0 ⊢
 clear hWB
 have HT:=Lib.hid (HT0.out.ext HXW.out)
 have K0:=Lib.hid k0
 replace HTAB:=Lib.hid (HTAB.out.ext HXW.out)
 have HW0:=Lib.hid HXW.out
 have HX:=Lib.hid (Ext.refl WB)
 have c0:=k0.cell 0
 have c1:=k0.cell 1
 have c2:=k0.cell 2
 simp only [List.getElem?_toArray,List.getElem?_cons_zero,List.getElem?_cons_succ] at c0 c1 c2
 clear k0 HXW
 skip
 refine (awake_any _ HTAB.out).mono ?_
 rintro e w1 ⟨rfl,hx⟩
 have hxx:Ext WB w1:=hx
 replace HX:=Lib.hid (HX.out.trans hxx)
 replace HT:=Lib.hid (HT.out.ext hxx)
 replace c0:=hxx.cell c0
 replace c1:=hxx.cell c1
 replace c2:=hxx.cell c2
 replace HTAB:=Lib.hid (HTAB.out.ext hxx)
 replace K0:=Lib.hid (K0.out.ext hxx)
 clear hx hxx
 go_wp2_with fail
 refine (short_any _ _ t 8 ⟨_,_,_,rfl,HT.out⟩ (by omega)).mono ?_
 rintro e w2 ⟨q,rfl,hq,hx⟩
 have hxx:Ext w1 w2:=hx
 replace HX:=Lib.hid (HX.out.trans hxx)
 replace HT:=Lib.hid (HT.out.ext hxx)
 replace c0:=hxx.cell c0
 replace c1:=hxx.cell c1
 replace c2:=hxx.cell c2
 replace HTAB:=Lib.hid (HTAB.out.ext hxx)
 replace K0:=Lib.hid (K0.out.ext hxx)
 clear hx hxx
 cases q with
 | false =>
   clear hq
   clear c0 c1 c2
   go_wp2_with fail
   refine (awake_any _ HTAB.out).mono ?_
   rintro e w3 ⟨rfl,hx⟩
   have hxx:Ext w2 w3:=hx
   replace HX:=Lib.hid (HX.out.trans hxx)
   replace HT:=Lib.hid (HT.out.ext hxx)
   replace HTAB:=Lib.hid (HTAB.out.ext hxx)
   replace K0:=Lib.hid (K0.out.ext hxx)
   clear hx hxx
   go_wp2
   go_ret
   exact ⟨rfl,HW0.out.trans HX.out⟩
 | true =>
   have HF:=Lib.hid ((hq rfl).few (by omega))
   clear hq
   obtain ⟨E,hE⟩:∃ E,treeSetErr t [n] = E:=⟨_,rfl⟩
   have HE:=Lib.hid hE
   obtain ⟨SE,hSE⟩:∃ E,shareErr t n = E:=⟨_,rfl⟩
   have HSE:=Lib.hid hSE
   obtain ⟨⟨im,id⟩,hI⟩:∃ C,importanceR t n = C:=⟨_,rfl⟩
   have HI:=Lib.hid hI
   obtain ⟨c,hc⟩:∃ c:Int,(criticalR t n:Int) = c:=⟨_,rfl⟩
   have HCR:=Lib.hid hc
   obtain ⟨⟨sn,sd⟩,hS⟩:∃ C,shareR t n = C:=⟨_,rfl⟩
   have HSH:=Lib.hid hS
   clear hE hSE hI hc hS
   go_wp2_with fail
   refine (own_any _ _ t ⟨_,_,_,rfl,HT.out⟩ HF.out).mono ?_
   rintro e w3 ⟨uu,rfl,hu,hx⟩
   have hxx:Ext w2 w3:=hx
   replace HX:=Lib.hid (HX.out.trans hxx)
   replace HT:=Lib.hid (HT.out.ext hxx)
   replace c0:=hxx.cell c0
   replace c1:=hxx.cell c1
   replace c2:=hxx.cell c2
   replace HTAB:=Lib.hid (HTAB.out.ext hxx)
   replace K0:=Lib.hid (K0.out.ext hxx)
   have HU:=Lib.hid (hu)
   clear hx hxx
   clear hu
   go_wp2_with fail
   refine (lImportance _ _ t n im id HI.out HU.out).mono ?_
   rintro e w4 ⟨rfl,hx⟩
   have hxx:Ext w3 w4:=hx
   replace HX:=Lib.hid (HX.out.trans hxx)
   replace HT:=Lib.hid (HT.out.ext hxx)
   replace c0:=hxx.cell c0
   replace c1:=hxx.cell c1
   replace c2:=hxx.cell c2
   replace HTAB:=Lib.hid (HTAB.out.ext hxx)
   replace K0:=Lib.hid (K0.out.ext hxx)
   replace HU:=Lib.hid (HU.out.ext hxx)
   clear hx hxx
   rw [HE.out]
   clear HU
   have xp:=Ext.box w4 (.cells #[.int .i64 im,.int .i64 id] 56)
   have d0:=xp.cell c0
   have d1:=xp.cell c1
   have d2:=xp.cell c2
   clear xp
   go_wp2_with fail
   have LOB5:Hid (WB.heap.size ≤ w4.heap.size):=by exact (by have:=HX.out.size; omega:WB.heap.size ≤ w4.heap.size)
   clear d0 d1 d2
   skip
   change Calls _ _ _ (w4.alloc (.cells #[.int .i64 im,.int .i64 id] 56)) _
   have k0:=Blk.made w4 56 #[.int .i64 im,.int .i64 id]
   have x0:=Ext.box w4 (.cells #[.int .i64 im,.int .i64 id] 56)
   have es0:(w4.alloc (.cells #[.int .i64 im,.int .i64 id] 56)).heap.size = w4.heap.size + 1:=by simp
   obtain ⟨X0,hX0⟩:∃ X,w4.alloc (.cells #[.int .i64 im,.int .i64 id] 56) = X:=⟨_,rfl⟩
   rw [hX0] at k0 x0 es0 ⊢
   clear hX0
   have e0:X0.heap.size = w4.heap.size + 1:=by omega
   have HXW:Hid (Ext w4 X0):=by exact (x0:Ext w4 X0)
   have eW:X0.heap.size = w4.heap.size + 1:=e0
   clear x0 es0 e0
   obtain ⟨W,hWW⟩:∃ W,X0 = W:=⟨_,rfl⟩
   rw [hWW] at HXW eW ⊢ k0
   clear hWW
   refine (own_any _ _ t ⟨_,_,_,rfl,HT.out.ext HXW.out⟩ HF.out).mono ?_
   rintro e w5 ⟨uu,rfl,hu,hx⟩
   have hxx:Ext w4 w5:=HXW.out.trans hx
   replace HX:=Lib.hid (HX.out.trans hxx)
   replace HT:=Lib.hid (HT.out.ext hxx)
   replace c0:=hxx.cell c0
   replace c1:=hxx.cell c1
   replace c2:=hxx.cell c2
   replace HTAB:=Lib.hid (HTAB.out.ext hxx)
   replace K0:=Lib.hid (K0.out.ext hxx)
   have HU:=Lib.hid (hu)
   have B5:=Lib.hid (k0.ext hx)
   clear hx hxx HXW eW k0
   clear hu
   go_wp2_with fail
   refine (lCritical _ _ t n c HCR.out HU.out).mono ?_
   rintro e w6 ⟨rfl,hx⟩
   have hxx:Ext w5 w6:=hx
   replace HX:=Lib.hid (HX.out.trans hxx)
   replace HT:=Lib.hid (HT.out.ext hxx)
   replace c0:=hxx.cell c0
   replace c1:=hxx.cell c1
   replace c2:=hxx.cell c2
   replace HTAB:=Lib.hid (HTAB.out.ext hxx)
   replace K0:=Lib.hid (K0.out.ext hxx)
   replace HU:=Lib.hid (HU.out.ext hxx)
   replace B5:=Lib.hid (B5.out.ext hxx)
   clear hx hxx
   rw [HE.out]
   clear HU
   go_wp2_with fail
   refine (own_any _ _ t ⟨_,_,_,rfl,HT.out⟩ HF.out).mono ?_
   rintro e w7 ⟨uu,rfl,hu,hx⟩
   have hxx:Ext w6 w7:=hx
   replace HX:=Lib.hid (HX.out.trans hxx)
   replace HT:=Lib.hid (HT.out.ext hxx)
   replace c0:=hxx.cell c0
   replace c1:=hxx.cell c1
   replace c2:=hxx.cell c2
   replace HTAB:=Lib.hid (HTAB.out.ext hxx)
   replace K0:=Lib.hid (K0.out.ext hxx)
   replace B5:=Lib.hid (B5.out.ext hxx)
   have HU:=Lib.hid (hu)
   clear hx hxx
   clear hu
   go_wp2_with fail
   refine (lShare _ _ t n sn sd HSH.out HU.out).mono ?_
   rintro e w8 ⟨rfl,hx⟩
   have hxx:Ext w7 w8:=hx
   replace HX:=Lib.hid (HX.out.trans hxx)
   replace HT:=Lib.hid (HT.out.ext hxx)
   replace c0:=hxx.cell c0
   replace c1:=hxx.cell c1
   replace c2:=hxx.cell c2
   replace HTAB:=Lib.hid (HTAB.out.ext hxx)
   replace K0:=Lib.hid (K0.out.ext hxx)
   replace B5:=Lib.hid (B5.out.ext hxx)
   replace HU:=Lib.hid (HU.out.ext hxx)
   clear hx hxx
   rw [HSE.out]
   clear HU
   have xp:=Ext.box w8 (.cells #[.int .i64 sn,.int .i64 sd] 56)
   have d0:=xp.cell c0
   have d1:=xp.cell c1
   have d2:=xp.cell c2
   clear xp
   go_wp2_with fail
   have LOB9:Hid (WB.heap.size ≤ w8.heap.size):=by exact (by have:=HX.out.size; omega:WB.heap.size ≤ w8.heap.size)
   have NEB5_B9:Hid (w4.heap.size ≠ w8.heap.size):=by exact (by have:=B5.out.lt; omega:w4.heap.size ≠ w8.heap.size)
   clear d0 d1 d2
   skip
   change Calls _ _ _ (w8.alloc (.cells #[.int .i64 sn,.int .i64 sd] 56)) _
   have k0:=Blk.made w8 56 #[.int .i64 sn,.int .i64 sd]
   have x0:=Ext.box w8 (.cells #[.int .i64 sn,.int .i64 sd] 56)
   have es0:(w8.alloc (.cells #[.int .i64 sn,.int .i64 sd] 56)).heap.size = w8.heap.size + 1:=by simp
   obtain ⟨X0,hX0⟩:∃ X,w8.alloc (.cells #[.int .i64 sn,.int .i64 sd] 56) = X:=⟨_,rfl⟩
   rw [hX0] at k0 x0 es0 ⊢
   clear hX0
   have e0:X0.heap.size = w8.heap.size + 1:=by omega
   have HXW:Hid (Ext w8 X0):=by exact (x0:Ext w8 X0)
   have eW:X0.heap.size = w8.heap.size + 1:=e0
   clear x0 es0 e0
   obtain ⟨W,hWW⟩:∃ W,X0 = W:=⟨_,rfl⟩
   rw [hWW] at HXW eW ⊢ k0
   clear hWW
   refine (event_any _ _ t n ⟨_,_,_,rfl,HT.out.ext HXW.out⟩).mono ?_
   rintro e w9 ⟨rfl,hx⟩
   have hxx:Ext w8 w9:=HXW.out.trans hx
   replace HX:=Lib.hid (HX.out.trans hxx)
   replace HT:=Lib.hid (HT.out.ext hxx)
   replace c0:=hxx.cell c0
   replace c1:=hxx.cell c1
   replace c2:=hxx.cell c2
   replace HTAB:=Lib.hid (HTAB.out.ext hxx)
   replace K0:=Lib.hid (K0.out.ext hxx)
   replace B5:=Lib.hid (B5.out.ext hxx)
   have B9:=Lib.hid (k0.ext hx)
   clear hx hxx HXW eW k0
   rw [HE.out]
   by_cases he:E = 0
   · obtain ⟨h1,h2,h3⟩:=ev_ok (HE.out.trans he)
     obtain ⟨k,rfl⟩:∃ k:Nat,n = (k:Int):=⟨n.toNat,by omega⟩
     have hne:(E == 0) = true:=by simp [he]
     have HE0:=Lib.hid he
     have HZN:Hid (SE ≠ 0 → sn = 0 ∧ sd = 0):=by exact (fun h=>by
      have h4:=HSE.out
      have h5:=HSH.out
      unfold shareErr at h4
      unfold shareR at h5
      rw [if_pos (HE.out.trans he)] at h4 h5
      by_cases hz:weightW t t.chances 0 = 0
      · rw [if_pos hz] at h5
        injection h5 with h5 h6
        exact ⟨h5.symm,h6.symm⟩
      · rw [if_neg hz] at h4
        exact absurd h4.symm h:SE ≠ 0 → sn = 0 ∧ sd = 0)
     clear he h1 h2 h3 c0 c1 c2
     go_wp2_with fail
     have LOB13:Hid (WB.heap.size ≤ w9.heap.size):=by exact (by have:=HX.out.size; omega:WB.heap.size ≤ w9.heap.size)
     have NEB5_B13:Hid (w4.heap.size ≠ w9.heap.size):=by exact (by have:=B5.out.lt; omega:w4.heap.size ≠ w9.heap.size)
     have NEB9_B13:Hid (w8.heap.size ≠ w9.heap.size):=by exact (by have:=B9.out.lt; omega:w8.heap.size ≠ w9.heap.size)
     have LOB14:Hid (WB.heap.size ≤ w9.heap.size + 1):=by exact (by have:=HX.out.size; omega:WB.heap.size ≤ w9.heap.size + 1)
     have NEB5_B14:Hid (w4.heap.size ≠ w9.heap.size + 1):=by exact (by have:=B5.out.lt; omega:w4.heap.size ≠ w9.heap.size + 1)
     have NEB9_B14:Hid (w8.heap.size ≠ w9.heap.size + 1):=by exact (by have:=B9.out.lt; omega:w8.heap.size ≠ w9.heap.size + 1)
     have NEB13_B14:Hid (w9.heap.size ≠ w9.heap.size + 1):=by exact (by omega:w9.heap.size ≠ w9.heap.size + 1)
     change Code.wp _ _ _ _ ((w9.alloc (.cells #[.int .i64 0,.int .i64 0] 56)).alloc (.cells #[.int .i64 0,.int .i64 0] 56))
     have k0:=Blk.made w9 56 #[.int .i64 0,.int .i64 0]
     have x0:=Ext.box w9 (.cells #[.int .i64 0,.int .i64 0] 56)
     have es0:(w9.alloc (.cells #[.int .i64 0,.int .i64 0] 56)).heap.size = w9.heap.size + 1:=by simp
     obtain ⟨X0,hX0⟩:∃ X,w9.alloc (.cells #[.int .i64 0,.int .i64 0] 56) = X:=⟨_,rfl⟩
     rw [hX0] at k0 x0 es0 ⊢
     clear hX0
     have k1:=Blk.made X0 56 #[.int .i64 0,.int .i64 0]
     have x1:=Ext.box X0 (.cells #[.int .i64 0,.int .i64 0] 56)
     have es1:(X0.alloc (.cells #[.int .i64 0,.int .i64 0] 56)).heap.size = X0.heap.size + 1:=by simp
     obtain ⟨X1,hX1⟩:∃ X,X0.alloc (.cells #[.int .i64 0,.int .i64 0] 56) = X:=⟨_,rfl⟩
     rw [hX1] at k1 x1 es1 ⊢
     clear hX1
     replace k0:=k0.ext x1
     have e0:X0.heap.size = w9.heap.size + 1:=by omega
     have e1:X1.heap.size = w9.heap.size + 1 + 1:=by omega
     rw [e0] at k1
     have HXW:Hid (Ext w9 X1):=by exact (Ext.trans (x0) x1:Ext w9 X1)
     have eW:X1.heap.size = w9.heap.size + 1 + 1:=e1
     clear x0 es0 e0 x1 es1 e1
     obtain ⟨W,hWW⟩:∃ W,X1 = W:=⟨_,rfl⟩
     rw [hWW] at HXW eW ⊢ k0 k1
     clear hWW
     have hxx:=HXW.out
     replace HX:=Lib.hid (HX.out.trans hxx)
     replace HT:=Lib.hid (HT.out.ext hxx)
     replace HTAB:=Lib.hid (HTAB.out.ext hxx)
     replace K0:=Lib.hid (K0.out.ext hxx)
     replace B5:=Lib.hid (B5.out.ext hxx)
     replace B9:=Lib.hid (B9.out.ext hxx)
     have B13:=Lib.hid k0
     have B14:=Lib.hid k1
     clear hxx HXW eW k0 k1
     obtain ⟨w10,hww⟩:∃ X,W = X:=⟨_,rfl⟩
     rw [hww] at HX HT HTAB K0 B5 B9 B13 B14 ⊢
     clear hww
     have hdr:=(Ext.refl w10).drew
     refine Flow.regionB [.world,.plain,.world,.world,.plain,.world,.last,.last] [0,1,2,3,4,5,6,7] [[],[],[0,1],[],[],[0,1,2,3,4],[0,1,2,3,4,5],[0,1,2,3,4,5,6]] [6,7]
      [.is 0 (fun v=>.agg #[.slice A t.basics.length capa,.slice B t.causes.length capb,.slice G t.gates.length capg]),.is 1 (fun v=>.int .i64 k),.is 2 (fun v=>.agg #[.int .i64 im,.int .i64 id]),.is 3 (fun v=>.agg #[.slice A t.basics.length capa,.slice B t.causes.length capb,.slice G t.gates.length capg]),.is 4 (fun v=>.int .i64 k),.is 5 (fun v=>.int .i64 c),.none,.none]
      [fun v w1 w'=>Blk w' (w9.heap.size) 56 #[.int .i64 im,.int .i64 id] ∧ (∀ n,n ≤ w9.heap.size → Below n w1 w') ∧ ∀ k,k ≠ w9.heap.size → w'.heap[k]? = w1.heap[k]?,fun v w1 w'=>v 7 = .int .i64 c ∧ Blk w' (w9.heap.size) 56 #[.int .i64 im,.int .i64 id] ∧ (∀ n,n ≤ w9.heap.size → Below n w1 w') ∧ ∀ k,k ≠ w9.heap.size → w'.heap[k]? = w1.heap[k]?] (by kernel_rfl) rfl (by kernel_rfl) ⟨?g0,?g1,?g2,?g3,?g4,?g5,?g6,?g7,trivial⟩ ?post
     case g0 =>
      intro v w1 hx
      intro bb hbb
      intro K hK
      have o1:bb.eval (.tmp 2) = .pointer (some ⟨w.heap.size,0,none⟩):=by rw [hbb]; dsimp only; (try simp (discharger:=decide) only [eval_put_ne]); rfl
      exact gives_load_blk (.tmp 2) _ rfl Tryz.aggRTree Tryz.sizeRTree o1 (K0.out.ext (hdr.trans hx)) rfl (hK _ _ (Ext.refl _) rfl)
     case g1 =>
      intro v w1 hx
      intro bb hbb
      subst hbb
      refine ⟨_,fun w=>?_,rfl⟩
      go_simp
     case g2 =>
      intro v w1 hx (q0:v 0 = .agg #[.slice A t.basics.length capa,.slice B t.causes.length capb,.slice G t.gates.length capg]) (q1:v 1 = .int .i64 k)
      intro bb hbb
      subst hbb
      intro K hK
      go_simp
      refine gives_call (rI w1 _ t k im id HI.out (HE.out.trans HE0.out) ⟨_,_,_,rfl,HT.out.ext (hdr.trans hx)⟩) ?_
      rintro e w2 ⟨rfl,hx2⟩
      exact ⟨_,rfl,hK _ _ hx2 rfl⟩
     case g3 =>
      intro v w1 hx
      intro bb hbb
      intro K hK
      have o1:bb.eval (.tmp 2) = .pointer (some ⟨w.heap.size,0,none⟩):=by rw [hbb]; dsimp only; (try simp (discharger:=decide) only [eval_put_ne]); rfl
      exact gives_load_blk (.tmp 2) _ rfl Tryz.aggRTree Tryz.sizeRTree o1 (K0.out.ext (hdr.trans hx)) rfl (hK _ _ (Ext.refl _) rfl)
     case g4 =>
      intro v w1 hx
      intro bb hbb
      subst hbb
      refine ⟨_,fun w=>?_,rfl⟩
      go_simp
     case g5 =>
      intro v w1 hx (q0:v 0 = .agg #[.slice A t.basics.length capa,.slice B t.causes.length capb,.slice G t.gates.length capg]) (q1:v 1 = .int .i64 k) (q2:v 2 = .agg #[.int .i64 im,.int .i64 id]) (q3:v 3 = .agg #[.slice A t.basics.length capa,.slice B t.causes.length capb,.slice G t.gates.length capg]) (q4:v 4 = .int .i64 k)
      intro bb hbb
      subst hbb
      intro K hK
      go_simp
      refine gives_call (rC w1 _ t k c HCR.out (HE.out.trans HE0.out) ⟨_,_,_,rfl,HT.out.ext (hdr.trans hx)⟩) ?_
      rintro e w2 ⟨rfl,hx2⟩
      exact ⟨_,rfl,hK _ _ hx2 rfl⟩
     case g6 =>
      intro v w1 hx (q0:v 0 = .agg #[.slice A t.basics.length capa,.slice B t.causes.length capb,.slice G t.gates.length capg]) (q1:v 1 = .int .i64 k) (q2:v 2 = .agg #[.int .i64 im,.int .i64 id]) (q3:v 3 = .agg #[.slice A t.basics.length capa,.slice B t.causes.length capb,.slice G t.gates.length capg]) (q4:v 4 = .int .i64 k) (q5:v 5 = .int .i64 c)
      intro wl hT
      obtain rfl:wl = w1:=hT
      intro bb hbb
      intro K hK
      have o1:bb.eval (.tmp 13) = .pointer (some ⟨w9.heap.size,0,none⟩):=by rw [hbb]; dsimp only; (try simp (discharger:=decide) only [eval_put_ne]); rfl
      have o2:bb.eval (.tmp 53) = .agg (encR ⟨im,id⟩):=by rw [hbb]; dsimp only; (try simp (discharger:=decide) only [eval_put_ne]); rw [eval_put_eq (by simp only [size_put]; exact (by decide:53 < 82))]; exact q2
      exact gives_store_blk (.tmp 13) (.tmp 53) _ rfl Tryz.sizeRat o1 o2 (B13.out.ext (hdr.trans hx)) rfl rfl (encR_one ⟨im,id⟩) (fun vv w' hb hl ho=>hK _ _ ⟨hb,hl,ho⟩)
     case g7 =>
      intro v w1 hx (q0:v 0 = .agg #[.slice A t.basics.length capa,.slice B t.causes.length capb,.slice G t.gates.length capg]) (q1:v 1 = .int .i64 k) (q2:v 2 = .agg #[.int .i64 im,.int .i64 id]) (q3:v 3 = .agg #[.slice A t.basics.length capa,.slice B t.causes.length capb,.slice G t.gates.length capg]) (q4:v 4 = .int .i64 k) (q5:v 5 = .int .i64 c)
      intro wl hT
      replace hT:(fun v w1 w'=>Blk w' (w9.heap.size) 56 #[.int .i64 im,.int .i64 id] ∧ (∀ n,n ≤ w9.heap.size → Below n w1 w') ∧ ∀ k,k ≠ w9.heap.size → w'.heap[k]? = w1.heap[k]?) v w1 wl:=hT
      intro bb hbb
      subst hbb
      intro K hK
      go_simp
      exact hK _ _ ⟨rfl,hT⟩
     case post =>
      intro v w1 hx (q0:v 0 = .agg #[.slice A t.basics.length capa,.slice B t.causes.length capb,.slice G t.gates.length capg]) (q1:v 1 = .int .i64 k) (q2:v 2 = .agg #[.int .i64 im,.int .i64 id]) (q3:v 3 = .agg #[.slice A t.basics.length capa,.slice B t.causes.length capb,.slice G t.gates.length capg]) (q4:v 4 = .int .i64 k) (q5:v 5 = .int .i64 c)
      intro w2 hE
      replace hE:(fun v w1 w'=>v 7 = .int .i64 c ∧ Blk w' (w9.heap.size) 56 #[.int .i64 im,.int .i64 id] ∧ (∀ n,n ≤ w9.heap.size → Below n w1 w') ∧ ∀ k,k ≠ w9.heap.size → w'.heap[k]? = w1.heap[k]?) v w1 w2:=hE
      simp only [Flow.acts,Act.put]
      go_simp
      obtain ⟨h7,hb,hl,ho⟩:=hE
      have hxx:=hdr.trans hx
      replace HX:=Lib.hid (HX.out.trans hxx)
      replace K0:=Lib.hid (K0.out.ext hxx)
      replace B5:=Lib.hid (B5.out.ext hxx)
      replace B9:=Lib.hid (B9.out.ext hxx)
      replace B13:=Lib.hid (B13.out.ext hxx)
      replace B14:=Lib.hid (B14.out.ext hxx)
      obtain ⟨w11,hww⟩:∃ X,w2 = X:=⟨_,rfl⟩
      rw [hww] at hb hl ho ⊢
      clear hww
      have HXn:Hid (Ext WB w11):=by exact (Below.trans HX.out (hl _ LOB13.out):Ext WB w11)
      replace HX:=HXn
      clear HXn
      replace HT:=Lib.hid (HT0.out.ext (HW0.out.trans HX.out))
      replace HTAB:=Lib.hid (HTAB0.out.ext (HW0.out.trans HX.out))
      replace K0:=Lib.hid (K0.out.only (by have:=LOB13.out; omega) ho)
      replace B5:=Lib.hid (B5.out.only NEB5_B13.out ho)
      replace B9:=Lib.hid (B9.out.only NEB9_B13.out ho)
      replace B14:=Lib.hid (B14.out.only (NEB13_B14.out).symm ho)
      replace B13:=Lib.hid hb
      clear h7 hb hl ho hxx hx hdr q0 q1 q2 q3 q4 q5
      have c0:=K0.out.cell 0
      have c1:=K0.out.cell 1
      have c2:=K0.out.cell 2
      simp only [List.getElem?_toArray,List.getElem?_cons_zero,List.getElem?_cons_succ] at c0 c1 c2
      go_wp2_with fail
      refine (rS _ _ t k sn sd SE HSH.out HSE.out (HE.out.trans HE0.out) ⟨_,_,_,rfl,HT.out⟩).mono ?_
      rintro e w12 ⟨rfl,hx⟩
      have hxx:Ext w11 w12:=hx
      replace HX:=Lib.hid (HX.out.trans hxx)
      replace HT:=Lib.hid (HT.out.ext hxx)
      replace c0:=hxx.cell c0
      replace c1:=hxx.cell c1
      replace c2:=hxx.cell c2
      replace HTAB:=Lib.hid (HTAB.out.ext hxx)
      replace K0:=Lib.hid (K0.out.ext hxx)
      replace B5:=Lib.hid (B5.out.ext hxx)
      replace B9:=Lib.hid (B9.out.ext hxx)
      replace B13:=Lib.hid (B13.out.ext hxx)
      replace B14:=Lib.hid (B14.out.ext hxx)
      clear hx hxx
      go_wp2_with (first | (refine wpList_store_blk rfl _ _ 56 rfl Tryz.sizeRat rfl rfl B14.out rfl rfl ?_ ?_; (focus (intro u hu; simp only [List.mem_cons,List.not_mem_nil,or_false] at hu; rcases hu with rfl | rfl <;> rfl)); intro w13 hb hl ho; refine halted ?_))
      have HXn:Hid (Ext WB w13):=by exact (Below.trans HX.out (hl _ LOB14.out):Ext WB w13)
      replace HX:=HXn
      clear HXn
      replace HT:=Lib.hid (HT0.out.ext (HW0.out.trans HX.out))
      replace HTAB:=Lib.hid (HTAB0.out.ext (HW0.out.trans HX.out))
      replace K0:=Lib.hid (K0.out.only (by have:=LOB14.out; omega) ho)
      replace B5:=Lib.hid (B5.out.only NEB5_B14.out ho)
      replace B9:=Lib.hid (B9.out.only NEB9_B14.out ho)
      replace B13:=Lib.hid (B13.out.only NEB13_B14.out ho)
      replace B14:=Lib.hid hb
      clear hb hl ho
      have c0:=K0.out.cell 0
      have c1:=K0.out.cell 1
      have c2:=K0.out.cell 2
      simp only [List.getElem?_toArray,List.getElem?_cons_zero,List.getElem?_cons_succ] at c0 c1 c2
      unfold Halted
      have b5_0:=B5.out.cell 0
      have b5_1:=B5.out.cell 1
      have b13_0:=B13.out.cell 0
      have b13_1:=B13.out.cell 1
      simp only [List.getElem?_toArray,List.getElem?_cons_zero,List.getElem?_cons_succ] at b5_0 b5_1 b13_0 b13_1
      clear c0 c1 c2
      go_wp2_with fail
      refine (ratio_ok _ E im id im id (fun _=>⟨rfl,rfl⟩) (fun h=>absurd HE0.out h)).mono ?_
      rintro e w14 ⟨rfl,hx⟩
      have hxx:Ext w13 w14:=hx
      replace HX:=Lib.hid (HX.out.trans hxx)
      replace HT:=Lib.hid (HT.out.ext hxx)
      replace HTAB:=Lib.hid (HTAB.out.ext hxx)
      replace K0:=Lib.hid (K0.out.ext hxx)
      replace B5:=Lib.hid (B5.out.ext hxx)
      replace B9:=Lib.hid (B9.out.ext hxx)
      replace B13:=Lib.hid (B13.out.ext hxx)
      replace B14:=Lib.hid (B14.out.ext hxx)
      clear hx hxx
      clear b5_0 b5_1 b13_0 b13_1
      go_wp2_with fail
      refine (number_ok _ E c c (fun _=>rfl) (fun h=>absurd HE0.out h)).mono ?_
      rintro e w15 ⟨rfl,hx⟩
      have hxx:Ext w14 w15:=hx
      replace HX:=Lib.hid (HX.out.trans hxx)
      replace HT:=Lib.hid (HT.out.ext hxx)
      replace HTAB:=Lib.hid (HTAB.out.ext hxx)
      replace K0:=Lib.hid (K0.out.ext hxx)
      replace B5:=Lib.hid (B5.out.ext hxx)
      replace B9:=Lib.hid (B9.out.ext hxx)
      replace B13:=Lib.hid (B13.out.ext hxx)
      replace B14:=Lib.hid (B14.out.ext hxx)
      clear hx hxx
      have b9_0:=B9.out.cell 0
      have b9_1:=B9.out.cell 1
      have b14_0:=B14.out.cell 0
      have b14_1:=B14.out.cell 1
      simp only [List.getElem?_toArray,List.getElem?_cons_zero,List.getElem?_cons_succ] at b9_0 b9_1 b14_0 b14_1
      go_wp2_with fail
      refine (ratio_ok _ SE sn sd sn sd (fun _=>⟨rfl,rfl⟩) HZN.out).mono ?_
      rintro e w16 ⟨rfl,hx⟩
      have hxx:Ext w15 w16:=hx
      replace HX:=Lib.hid (HX.out.trans hxx)
      replace HT:=Lib.hid (HT.out.ext hxx)
      replace HTAB:=Lib.hid (HTAB.out.ext hxx)
      replace K0:=Lib.hid (K0.out.ext hxx)
      replace B5:=Lib.hid (B5.out.ext hxx)
      replace B9:=Lib.hid (B9.out.ext hxx)
      replace B13:=Lib.hid (B13.out.ext hxx)
      replace B14:=Lib.hid (B14.out.ext hxx)
      clear hx hxx
      go_wp2
      go_ret
      exact ⟨rfl,HW0.out.trans HX.out⟩
   · have hne:(E == 0) = false:=by simp [he]
     have HE0:=Lib.hid he
     have het:treeSetErr t [n] ≠ 0:=by rw [HE.out]; exact he
     have HSQ:Hid (SE = E):=by exact (by rw [← HSE.out]; unfold shareErr; rw [if_neg het,HE.out]:SE = E)
     have HCZ:Hid (c = 0):=by exact (by rw [← HCR.out]; unfold criticalR; rw [if_neg het]; rfl:c = 0)
     have HZI:Hid (im = 0 ∧ id = 0):=by exact (by have h:=HI.out; unfold importanceR at h; rw [if_neg het] at h; injection h with h1 h2; exact ⟨h1.symm,h2.symm⟩:im = 0 ∧ id = 0)
     have HZS:Hid (sn = 0 ∧ sd = 0):=by exact (by have h:=HSH.out; unfold shareR at h; rw [if_neg het] at h; injection h with h1 h2; exact ⟨h1.symm,h2.symm⟩:sn = 0 ∧ sd = 0)
     rw [HSQ.out]
     clear he het
     have b5_0:=B5.out.cell 0
     have b5_1:=B5.out.cell 1
     simp only [List.getElem?_toArray,List.getElem?_cons_zero,List.getElem?_cons_succ] at b5_0 b5_1
     replace b5_0:=((Ext.box w9 (.cells #[.int .i64 0,.int .i64 0] 56)).trans (Ext.box _ (.cells #[.int .i64 0,.int .i64 0] 56))).cell b5_0
     replace b5_1:=((Ext.box w9 (.cells #[.int .i64 0,.int .i64 0] 56)).trans (Ext.box _ (.cells #[.int .i64 0,.int .i64 0] 56))).cell b5_1
     clear c0 c1 c2
     go_wp2_with fail
     have LOB13:Hid (WB.heap.size ≤ w9.heap.size):=by exact (by have:=HX.out.size; omega:WB.heap.size ≤ w9.heap.size)
     have NEB5_B13:Hid (w4.heap.size ≠ w9.heap.size):=by exact (by have:=B5.out.lt; omega:w4.heap.size ≠ w9.heap.size)
     have NEB9_B13:Hid (w8.heap.size ≠ w9.heap.size):=by exact (by have:=B9.out.lt; omega:w8.heap.size ≠ w9.heap.size)
     have LOB14:Hid (WB.heap.size ≤ w9.heap.size + 1):=by exact (by have:=HX.out.size; omega:WB.heap.size ≤ w9.heap.size + 1)
     have NEB5_B14:Hid (w4.heap.size ≠ w9.heap.size + 1):=by exact (by have:=B5.out.lt; omega:w4.heap.size ≠ w9.heap.size + 1)
     have NEB9_B14:Hid (w8.heap.size ≠ w9.heap.size + 1):=by exact (by have:=B9.out.lt; omega:w8.heap.size ≠ w9.heap.size + 1)
     have NEB13_B14:Hid (w9.heap.size ≠ w9.heap.size + 1):=by exact (by omega:w9.heap.size ≠ w9.heap.size + 1)
     skip
     change Calls _ _ _ ((w9.alloc (.cells #[.int .i64 0,.int .i64 0] 56)).alloc (.cells #[.int .i64 0,.int .i64 0] 56)) _
     have k0:=Blk.made w9 56 #[.int .i64 0,.int .i64 0]
     have x0:=Ext.box w9 (.cells #[.int .i64 0,.int .i64 0] 56)
     have es0:(w9.alloc (.cells #[.int .i64 0,.int .i64 0] 56)).heap.size = w9.heap.size + 1:=by simp
     obtain ⟨X0,hX0⟩:∃ X,w9.alloc (.cells #[.int .i64 0,.int .i64 0] 56) = X:=⟨_,rfl⟩
     rw [hX0] at k0 x0 es0 ⊢
     clear hX0
     have k1:=Blk.made X0 56 #[.int .i64 0,.int .i64 0]
     have x1:=Ext.box X0 (.cells #[.int .i64 0,.int .i64 0] 56)
     have es1:(X0.alloc (.cells #[.int .i64 0,.int .i64 0] 56)).heap.size = X0.heap.size + 1:=by simp
     obtain ⟨X1,hX1⟩:∃ X,X0.alloc (.cells #[.int .i64 0,.int .i64 0] 56) = X:=⟨_,rfl⟩
     rw [hX1] at k1 x1 es1 ⊢
     clear hX1
     replace k0:=k0.ext x1
     have e0:X0.heap.size = w9.heap.size + 1:=by omega
     have e1:X1.heap.size = w9.heap.size + 1 + 1:=by omega
     rw [e0] at k1
     have HXW:Hid (Ext w9 X1):=by exact (Ext.trans (x0) x1:Ext w9 X1)
     have eW:X1.heap.size = w9.heap.size + 1 + 1:=e1
     clear x0 es0 e0 x1 es1 e1
     obtain ⟨W,hWW⟩:∃ W,X1 = W:=⟨_,rfl⟩
     rw [hWW] at HXW eW ⊢ k0 k1
     clear hWW
     refine (ratio_ok _ E im id 0 0 (fun h=>absurd h HE0.out) (fun _=>HZI.out)).mono ?_
     rintro e w10 ⟨rfl,hx⟩
     have hxx:Ext w9 w10:=HXW.out.trans hx
     replace HX:=Lib.hid (HX.out.trans hxx)
     replace HT:=Lib.hid (HT.out.ext hxx)
     replace HTAB:=Lib.hid (HTAB.out.ext hxx)
     replace K0:=Lib.hid (K0.out.ext hxx)
     replace B5:=Lib.hid (B5.out.ext hxx)
     replace B9:=Lib.hid (B9.out.ext hxx)
     have B13:=Lib.hid (k0.ext hx)
     have B14:=Lib.hid (k1.ext hx)
     clear hx hxx HXW eW k0 k1
     clear b5_0 b5_1
     go_wp2_with fail
     refine (number_ok _ E c 0 (fun h=>absurd h HE0.out) (fun _=>HCZ.out)).mono ?_
     rintro e w11 ⟨rfl,hx⟩
     have hxx:Ext w10 w11:=hx
     replace HX:=Lib.hid (HX.out.trans hxx)
     replace HT:=Lib.hid (HT.out.ext hxx)
     replace HTAB:=Lib.hid (HTAB.out.ext hxx)
     replace K0:=Lib.hid (K0.out.ext hxx)
     replace B5:=Lib.hid (B5.out.ext hxx)
     replace B9:=Lib.hid (B9.out.ext hxx)
     replace B13:=Lib.hid (B13.out.ext hxx)
     replace B14:=Lib.hid (B14.out.ext hxx)
     clear hx hxx
     have b9_0:=B9.out.cell 0
     have b9_1:=B9.out.cell 1
     have b14_0:=B14.out.cell 0
     have b14_1:=B14.out.cell 1
     simp only [List.getElem?_toArray,List.getElem?_cons_zero,List.getElem?_cons_succ] at b9_0 b9_1 b14_0 b14_1
     go_wp2_with fail
     refine (ratio_ok _ E sn sd 0 0 (fun h=>absurd h HE0.out) (fun _=>HZS.out)).mono ?_
     rintro e w12 ⟨rfl,hx⟩
     have hxx:Ext w11 w12:=hx
     replace HX:=Lib.hid (HX.out.trans hxx)
     replace HT:=Lib.hid (HT.out.ext hxx)
     replace HTAB:=Lib.hid (HTAB.out.ext hxx)
     replace K0:=Lib.hid (K0.out.ext hxx)
     replace B5:=Lib.hid (B5.out.ext hxx)
     replace B9:=Lib.hid (B9.out.ext hxx)
     replace B13:=Lib.hid (B13.out.ext hxx)
     replace B14:=Lib.hid (B14.out.ext hxx)
     clear hx hxx
     go_wp2
     go_ret
     exact ⟨rfl,HW0.out.trans HX.out⟩
end Go.Proofs
namespace Go.Proofs.YthfanledageoeaaGreatDoor
open Go.ChangeShapes Go.WideShapes Go.ChangeAt Go.RowKit Go.Tw
set_option maxRecDepth 100000 in
theorem faultImportances_lifted (os:Os) (started:os.Started) (H:Type) (enc:TypeId × Value → H) :
    ReturnsInHanded {} Tryz.checked os 6 .any (fun w args=>(Rows.faultImportancesSpec.pre enc Tryz.prog Tryz.f6 Rows.faultImportancesRow.domain false w args ∧ laidMetH Tryz.prog laidL w) ∧ sizedMet enc Tryz.prog Tryz.f6 (OpenSpec.ofChange Rows.faultImportancesSpec) false w args)
     (Rows.faultImportancesSpec.post enc Tryz.prog Tryz.f6 false true false false):=by
 refine returnsInHanded_of_change_and (C:=Tryz.checked) (X:=fun w _=>laidMetH Tryz.prog laidL w) (fun _ _ _ hh h=>h.of_heap hh) own started (by kernel_rfl) Tryz.func6
  (ChangeSpec.witness_shaped (enc:=enc) (C:=Tryz.checked) (os:=os) (X:=fun w _=>laidMetH Tryz.prog laidL w) false (World.laidAll Tryz.prog os laidL) #[.agg #[.slice none 0 0,.slice none 0 0,.slice none 0 0],.int .i64 0] 8 (World.laidAll_os _ _ _)
   (World.shaped_of_ZipB (by kernel_rfl) (by kernel_rfl)) (by kernel_rfl) (by kernel_rfl) (by kernel_rfl)
   (by rw [MakeChecks.laidMetH_plain _ _ _ (by kernel_rfl)]; exact laidMet_laidAll _ (by kernel_rfl) (by kernel_rfl))) ?_
 intro W base args ds gs before hval0 hW hc hsz0 hL _
 have hval:∀ (j:Nat) t v,Tryz.f6.params[j]? = some t → args[j]? = some v → Value.okWide Tryz.prog W .any base t v:=hval0
 have hsz:(DataW.weightsEach Tryz.prog (Tryz.f6.params.toList ++ Rows.faultImportancesSpec.plain.varTypes Tryz.prog) (ds ++ gs)).all (· ≤ reachBytes) = true:=hsz0
 have hW':=hW
 obtain ⟨p,q,hA0,hV,rfl,hfz,hnd⟩:=hW
 have hA:DataW.TrodAll enc Tryz.prog W 0 (fun _=>true) true Tryz.f6.params.toList args.toList ds p:=hA0
 rw [Tryz.params6] at hA hval hsz
 obtain ⟨v0,vs0,d0,ds0,p0,q0,hargs,rfl,rfl,h0,r0⟩:=trodAll_cons hA
 obtain ⟨v1,vs1,d1,ds1,p1,q1,rfl,rfl,rfl,h1,r1⟩:=trodAll_cons r0
 obtain ⟨rfl,rfl,rfl⟩:=trodAll_nil r1
 obtain rfl:args = #[v0,v1]:=by cases args; simp_all
 obtain ⟨rfl,rfl⟩:=trodVars_none hV
 have hfit:∀ x ∈ DataW.weightsEach Tryz.prog [26,3] [d0,d1],x ≤ 140737488351232:=fun x hx=>by
  have:=List.all_eq_true.1 (show (DataW.weightsEach Tryz.prog [26,3] [d0,d1]).all (· ≤ reachBytes) = true from hsz) x hx
  exact Nat.le_trans (of_decide_eq_true this) (by decide)
 obtain ⟨f0,g0⟩:=fits_each hfit
 obtain ⟨f1,g1⟩:=fits_each g0
 have k0:=h0
 have lt0:∀ x ∈ p0,x.block < W.heap.size:=by obtain ⟨m,hm⟩:=k0; exact DataW.trod_lt m _ _ _ hm
 obtain ⟨t0,HI0⟩:=tree_of_trod (hval 0 26 v0 rfl rfl) h0 f0
 have k1:=h1
 have lt1:∀ x ∈ p1,x.block < W.heap.size:=by obtain ⟨m,hm⟩:=k1; exact DataW.trod_lt m _ _ _ hm
 obtain ⟨z1,rfl,rfl,rfl,wz1⟩:=open_int Tryz.underlying3 (hval 1 3 v1 rfl rfl) h1
 clear hA0 hval0 hsz0
 refine (faultImportances_any _ _ _ _ HI0 (tab_of_laid hL)).mono fun e W' ⟨he,bel⟩=>?_
 subst he
 exact ⟨_,rfl,_,_,_,[],_,[],hW',trodAll_mk1 (shut_bool Tryz.underlying4 _),(trodAll_cons_mk (Below.trod laidOut (by kernel_rfl) (of_decide_eq_true (by kernel_rfl)) k0 bel lt0) (trodAll_cons_mk (shut_int Tryz.underlying3 wz1) trodAll_mk0)),rfl,bel.frame _,fun h=>by cases h⟩
theorem faultImportances_holds:Rows.FaultImportancesSaid :=
 OpenClaim.holds_of_wide 6 Tryz.f6 rfl rfl rfl rfl rfl rfl rfl ⟨rfl,rfl,rfl,rfl,rfl⟩ rfl rfl rfl rfl rfl (by kernel_rfl) Tryz.func6 (by kernel_rfl)
  (of_decide_eq_true (by kernel_rfl)) (by unfold Func.isWrapper; first | (rw [if_pos (by decide +kernel)]; kernel_rfl) | (rw [if_neg (by decide +kernel)]; exact ⟨rfl,rfl⟩))
  (fun os started H enc _=>faultImportances_lifted os started H enc)
theorem faultImportances_card:Rows.FaultImportancesCardSaid :=
 Claim7.holds_tied_plain_at .later [] [.data,.data,.data] true _ false faultImportances_holds (fun _ h=>by cases h) (by kernel_rfl) (fun _ h=>by cases h) faultImportances_row_tie rfl ⟨rfl,rfl⟩ (by kernel_rfl) rfl
  (fun f fn hf hfn=>by
   obtain rfl:f = 6:=Option.some.inj ((show Tryz.prog.funcNamed Rows.faultImportancesRow.func = some 6 by kernel_rfl).symm.trans hf) |>.symm
   obtain rfl:fn = Tryz.f6:=(Option.some.inj (Tryz.func6.symm.trans hfn)).symm
   exact ⟨by kernel_rfl,fun j t ht=>by
    rw [Tryz.params6] at ht
    have hm:t ∈ [26,3]:=by simpa using Array.mem_of_getElem? ht
    have hall:([26,3].all fun u=>!Tryz.prog.wantsStandIn u) = true:=by kernel_rfl
    exact (show Tryz.prog.wantsStandIn t = false by simpa using List.all_eq_true.1 hall t hm)⟩)
  (by kernel_rfl)
#print axioms faultImportances_card
end Go.Proofs.YthfanledageoeaaGreatDoor
