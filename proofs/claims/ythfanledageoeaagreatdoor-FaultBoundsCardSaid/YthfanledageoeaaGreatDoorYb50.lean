/- Contracts of the laws' own small functions: number, ratio, event. The program's weight of a tree is the reference's: plain sums. The law FaultChances: the call returns true. Contract: the reference's CheckMost. Contract: the reference's Bound. -/
import Derived.Test.YthfanledageoeaaGreatDoorYb48
import Derived.Test.YthfanledageoeaaGreatDoorYb21
import Derived.Test.YthfanledageoeaaGreatDoorYb49
import Derived.Test.YthfanledageoeaaGreatDoorYb46
import Derived.Test.YthfanledageoeaaGreatDoorYb12
import Derived.Test.YthfanledageoeaaGreatDoorYb25
import Derived.Test.YthfanledageoeaaGreatDoorYb27
import Derived.Test.YthfanledageoeaaGreatDoorYb28
import Derived.Test.YthfanledageoeaaGreatDoorYb47
import Derived.Test.YthfanledageoeaaGreatDoorYb32
import Derived.Test.YthfanledageoeaaGreatDoorYb30
set_option linter.unusedVariables false
set_option linter.unusedSimpArgs false
set_option linter.constructorNameAsVariable false
namespace Go.Proofs
open Go.RowKit Go.Tw Go.Flow
attribute [local go_sem ↓] run_eql_ratI
theorem number_ok (w:World) (bad x want:Int) (h0:bad = 0 → x = want) (h1:bad ≠ 0 → x = 0) :
    Calls Tryz.prog 41 #[.int .i64 x,.int .i64 bad,.int .i64 bad,.int .i64 want] w fun e w'=>e = .returned (.bool true) ∧ Ext w w':=by
 by_cases hb:bad = 0
 · subst hb
   obtain rfl:=h0 rfl
   have hx:(x == x) = true:=by simp
   clear h0 h1
   go_enter Tryz.func41,Tryz.ntmps41
   go_wp2
   go_ret
   exact ⟨rfl,Ext.refl _⟩
 · obtain rfl:=h1 hb
   have e1:(bad == bad) = true:=by simp
   have e2:(bad == 0) = false:=by simp [hb]
   have e3:(bad != 0) = true:=by simp [hb]
   clear h0 h1 hb
   go_enter Tryz.func41,Tryz.ntmps41
   go_wp2
   go_ret
   exact ⟨rfl,Ext.refl _⟩
set_option maxHeartbeats 400000 in
theorem ratio_ok (w:World) (bad a b c d:Int) (h0:bad = 0 → a = c ∧ b = d) (h1:bad ≠ 0 → a = 0 ∧ b = 0) :
    Calls Tryz.prog 33 #[.agg #[.int .i64 a,.int .i64 b],.int .i64 bad,.int .i64 bad,.agg #[.int .i64 c,.int .i64 d]] w fun e w'=>e = .returned (.bool true) ∧ Ext w w':=by
 have hx1:=Ext.box w (.cells #[.int .i64 a,.int .i64 b] 56)
 have hx2:=Ext.box (w.alloc (.cells #[.int .i64 a,.int .i64 b] 56)) (.cells #[.int .i64 c,.int .i64 d] 56)
 have HXX:=Lib.hid (hx1.trans hx2)
 clear hx1 hx2
 by_cases hb:bad = 0
 · subst hb
   obtain ⟨rfl,rfl⟩:=h0 rfl
   have e1:(a == a) = true:=by simp
   have e2:(b == b) = true:=by simp
   clear h0 h1
   go_enter Tryz.func33,Tryz.ntmps33
   go_wp2
   go_ret
   exact ⟨rfl,HXX.out⟩
 · obtain ⟨rfl,rfl⟩:=h1 hb
   have e1:(bad == bad) = true:=by simp
   have e2:(bad == 0) = false:=by simp [hb]
   have e3:(bad != 0) = true:=by simp [hb]
   clear h0 h1 hb
   go_enter Tryz.func33,Tryz.ntmps33
   go_wp2
   go_ret
   exact ⟨rfl,HXX.out⟩
end Go.Proofs
namespace Go.Proofs
open Go.Tw
theorem finRange_val (n:Nat):(List.finRange n).map (fun x=>x.1) = List.range n:=by
 apply List.ext_getElem
 · simp
 · intro i h1 h2
   simp
theorem sumW_map {N:Nat} (t:Tree) (c:List Int) (wi:Nat):∀ l:List (Fin N),sumW t c wi l = ((l.map (fun x=>x.1)).map (termW t c wi)).sum
 | []=>rfl
 | x :: l=>by rw [sumW,sumW_map t c wi l]; simp
theorem weightTo_sum (t:Tree) (c:List Int):∀ n,t.weightTo c n = ((List.range n).map fun s=>if t.fails (evN s) then partOf c s else 0).sum
 | 0=>rfl
 | n + 1=>by rw [Tree.weightTo,weightTo_sum t c n,List.range_succ,List.map_append,List.sum_append]; simp
theorem weightW_sum (t:Tree) (c:List Int) (wi:Nat):weightW t c wi = ((List.range (2 ^ t.size)).map (termW t c wi)).sum:=by
 unfold weightW
 rw [sumW_map,finRange_val]
theorem weightW_zero (t:Tree) (c:List Int):weightW t c 0 = t.weight c:=by
 rw [weightW_sum]
 unfold Tree.weight
 rw [weightTo_sum]
 congr 1
 apply List.map_congr_left
 intro s _
 unfold termW
 simp
end Go.Proofs
namespace Go.Proofs
open Go.RowKit Go.Tw Go.Flow
theorem rChance (w:World) (u:Value) (t:Tree) (a b:Int) (hC:probOf t t.chances = ⟨a,b⟩) (hv:Valid t) (hu:IsTree w u t) :
    Calls Tryz.prog 30 #[u] w fun e w'=>e = .returned (.agg #[.int .i64 a,.int .i64 b]) ∧ Ext w w':=by
 have h:=Chance_any w u t hv hu
 rw [hC] at h
 exact h
end Go.Proofs
namespace Go.Proofs
open Go.RowKit Go.Tw Go.Flow
theorem most_at {t:Tree} {l:List Int} {k:Nat} (hl:l.length = t.size) (hk:k < t.size) (hz:∀ j,j < k → mostE t l j = 0) (hE:mostE t l k ≠ 0):mostErr t l = mostE t l k:=by
 unfold mostErr
 rw [if_pos hl,← List.append_nil ((List.range t.size).map (mostE t l)),first_at hk hz hE]
theorem most_zero {t:Tree} {l:List Int} (hl:l.length = t.size) (hz:∀ j,j < t.size → mostE t l j = 0):mostErr t l = 0:=by
 unfold mostErr
 rw [if_pos hl,firstErr_zero]
 intro x hx
 obtain ⟨i,hi,rfl⟩:=List.mem_map.1 hx
 exact hz i (List.mem_range.1 hi)
theorem ix_chances {t:Tree} {k:Nat} (hk:k < t.size):ix t.chances k = t.chanceAt k:=by
 rw [ix_eq (by rw [chances_len]; exact hk)]
 unfold Tree.chances
 simp
set_option maxRecDepth 100000 in
set_option maxHeartbeats 2000000 in
theorem rCheckMost_any (w:World) (v u:Value) (t:Tree) (l:List Int) (ht:IsTree w v t) (hl:IsInts w u l) (hs:t.size ≤ 100000) :
    Calls Tryz.prog 47 #[v,u] w fun e w'=>e = .returned (.int .i64 (mostErr t l)) ∧ Ext w w':=by
 obtain ⟨Al,capl,rfl,hll,_,hcc⟩:=hl.opened
 have HCC:=Lib.hid hcc
 clear hl hcc
 obtain ⟨a,b,c,rfl,h3⟩:=ht
 obtain ⟨A,capa,rfl,hl1,hcap1,_⟩:=h3.basics.opened
 obtain ⟨B,capb,rfl,hl2,hcap2,_⟩:=h3.causes.opened
 obtain ⟨G,capg,rfl,hl3,hcap3,_⟩:=h3.gates.opened
 have HT0:=Lib.hid h3
 clear h3
 go_enter Tryz.func47,Tryz.ntmps47
 go_wp2_with fail
 change Calls _ _ _ (w.alloc (.cells #[.slice A t.basics.length capa,.slice B t.causes.length capb,.slice G t.gates.length capg] 26)) _
 have k0:=Blk.made w 26 #[.slice A t.basics.length capa,.slice B t.causes.length capb,.slice G t.gates.length capg]
 have x0:=Ext.box w (.cells #[.slice A t.basics.length capa,.slice B t.causes.length capb,.slice G t.gates.length capg] 26)
 have es0:(w.alloc (.cells #[.slice A t.basics.length capa,.slice B t.causes.length capb,.slice G t.gates.length capg] 26)).heap.size = w.heap.size + 1:=by simp
 obtain ⟨X0,hX0⟩:∃ X,w.alloc (.cells #[.slice A t.basics.length capa,.slice B t.causes.length capb,.slice G t.gates.length capg] 26) = X:=⟨_,rfl⟩
 rw [hX0] at k0 x0 es0 ⊢
 clear hX0
 have e0:X0.heap.size = w.heap.size + 1:=by omega
 have HXW:Hid (Ext w X0):=by exact (x0:Ext w X0)
 have eW:X0.heap.size = w.heap.size + 1:=e0
 clear x0 es0 e0
 obtain ⟨W,hWW⟩:∃ W,X0 = W:=⟨_,rfl⟩
 rw [hWW] at HXW eW ⊢ k0
 clear hWW
 have HT:=Lib.hid (HT0.out.ext HXW.out)
 have K0:=Lib.hid k0
 clear k0
 refine (Size_any _ _ t ⟨_,_,_,rfl,HT.out⟩).mono ?_
 rintro e w1 ⟨rfl,hx1⟩
 have HX1:=Lib.hid hx1
 clear hx1
 by_cases hlen:l.length = t.size
 · have hln:((l.length:Int) != (t.size:Int)) = false:=by rw [hlen]; simp
   have HLEN:=Lib.hid hlen
   clear hlen
   go_wp2
   go_loopw [5] (fun i wr=>∃ (k:Nat),k ≤ l.length ∧ i = .int .i64 k ∧ (∀ j,j < k → mostE t l j = 0) ∧ Ext W wr) (fun i _=>l.length - (intOf i).toNat)
   case atStart=>exact ⟨0,Nat.zero_le _,rfl,fun j hj=>by omega,HX1.out⟩
   case round =>
    obtain ⟨k,hk,rfl,hz,hx⟩:=hrel
    have HZ:=Lib.hid hz
    have HX:=Lib.hid hx
    have HK:=Lib.hid (K0.out.ext hx)
    clear hz
    by_cases hlt:k < l.length
    · have HKS:Hid (k < t.size):=by exact (by rw [← HLEN.out]; exact hlt:k < t.size)
      obtain ⟨b0,off,rfl,hce⟩:=HCC.out k hlt
      replace hce:=(HXW.out.trans hx).cell hce
      have HCE:=Lib.hid hce
      have HME:Hid (mostE t l k = firstErr [rangeErr (ix l k) 0 16,whenI (decide (ix l k < ix t.chances k)) 11]):=by exact (rfl:mostE t l k = _)
      rw [ix_chances HKS.out] at HME
      obtain ⟨c,hc⟩:∃ c,ix l k = c:=⟨_,rfl⟩
      obtain ⟨y,hy⟩:∃ y,t.chanceAt k = y:=⟨_,rfl⟩
      rw [hc,hy] at HME
      rw [hc] at hce HCE
      have HY:=Lib.hid hy
      obtain ⟨E,hE⟩:∃ E,rangeErr c 0 16 = E:=⟨_,rfl⟩
      have HE:=Lib.hid hE
      rw [hE] at HME
      have hkI:(k:Int) < l.length:=by omega
      clear hx hc hy hE
      go_wp2_with fail
      refine (CheckRange_any _ c 0 16).mono ?_
      rintro e w2 ⟨rfl,rfl⟩
      rw [HE.out]
      by_cases hE0:E = 0
      · have hne:(E != 0) = false:=by simp [hE0]
        have HME2:Hid (mostE t l k = whenI (decide (c < y)) 11):=by exact (by rw [HME.out,hE0]; unfold firstErr firstErr; simp [firstErr,whenI]:mostE t l k = whenI (decide (c < y)) 11)
        have HCH:Hid (∀ w',Ext wr w' → Calls Tryz.prog 69 #[.agg #[.slice A t.basics.length capa,.slice B t.causes.length capb,.slice G t.gates.length capg],.int .i64 k] w' fun e w''=>e = .returned (.int .i64 y) ∧ Ext w' w''):=by
         exact (fun w' h=>by rw [← HY.out]; exact chance_any w' _ t k ⟨_,_,_,rfl,HT.out.ext (HX.out.trans h)⟩ HKS.out:∀ w',Ext wr w' → Calls Tryz.prog 69 #[.agg #[.slice A t.basics.length capa,.slice B t.causes.length capb,.slice G t.gates.length capg],.int .i64 k] w' fun e w''=>e = .returned (.int .i64 y) ∧ Ext w' w'')
        have hdr:=(Ext.refl wr).drew
        clear hE0 hce
        go_wp2
        refine Flow.regionB0 [.plain,.plain,.plain,.world,.world,.plain,.world,.plain] [0,1,2,3,4,5,6,7] [[],[],[0,1],[0,1,2],[],[],[4,5],[0,1,2,3,4,5,6]]
         [.is 0 (fun v=>.slice (some ⟨b0,off,none⟩) l.length capl),.is 1 (fun v=>.int .i64 k),.is 2 (fun v=>.pointer (some ⟨b0,off + k,none⟩)),.is 3 (fun v=>.int .i64 c),.is 4 (fun v=>.agg #[.slice A t.basics.length capa,.slice B t.causes.length capb,.slice G t.gates.length capg]),.is 5 (fun v=>.int .i64 k),.is 6 (fun v=>.int .i64 y),.is 7 (fun v=>.bool (decide (c < y)))]
         (by kernel_rfl) rfl (by kernel_rfl) ⟨?g0,?g1,?g2,?g3,?g4,?g5,?g6,?g7,trivial⟩ ?post
        case g0 =>
         intro v w1 hx
         intro bb hbb
         subst hbb
         refine ⟨_,fun w=>?_,rfl⟩
         go_simp
        case g1 =>
         intro v w1 hx
         intro bb hbb
         subst hbb
         refine ⟨_,fun w=>?_,rfl⟩
         go_simp
        case g2 =>
         intro v w1 hx (q0:v 0 = .slice (some ⟨b0,off,none⟩) l.length capl) (q1:v 1 = .int .i64 k)
         intro bb hbb
         subst hbb
         refine ⟨_,fun w=>?_,rfl⟩
         go_simp
        case g3 =>
         intro v w1 hx (q0:v 0 = .slice (some ⟨b0,off,none⟩) l.length capl) (q1:v 1 = .int .i64 k) (q2:v 2 = .pointer (some ⟨b0,off + k,none⟩))
         intro bb hbb
         subst hbb
         have n0:w1.cell? ⟨b0,off + k,none⟩ = some (.int .i64 c):=(hdr.trans hx).cell HCE.out
         intro K hK
         go_simp
         exact hK _ _ (Ext.refl _) rfl
        case g4 =>
         intro v w1 hx
         intro bb hbb
         intro K hK
         have o1:bb.eval (.tmp 2) = .pointer (some ⟨w.heap.size,0,none⟩):=by rw [hbb]; dsimp only; (try simp (discharger:=decide) only [eval_put_ne]); rfl
         exact gives_load_blk (.tmp 2) _ rfl Tryz.aggRTree Tryz.sizeRTree o1 (HK.out.ext (hdr.trans hx)) rfl (hK _ _ (Ext.refl _) rfl)
        case g5 =>
         intro v w1 hx
         intro bb hbb
         subst hbb
         refine ⟨_,fun w=>?_,rfl⟩
         go_simp
        case g6 =>
         intro v w1 hx (q4:v 4 = .agg #[.slice A t.basics.length capa,.slice B t.causes.length capb,.slice G t.gates.length capg]) (q5:v 5 = .int .i64 k)
         intro bb hbb
         subst hbb
         intro K hK
         go_simp
         refine gives_call (HCH.out w1 (hdr.trans hx)) ?_
         rintro e w2 ⟨rfl,hx2⟩
         exact ⟨_,rfl,hK _ _ hx2 rfl⟩
        case g7 =>
         intro v w1 hx (q0:v 0 = .slice (some ⟨b0,off,none⟩) l.length capl) (q1:v 1 = .int .i64 k) (q2:v 2 = .pointer (some ⟨b0,off + k,none⟩)) (q3:v 3 = .int .i64 c) (q4:v 4 = .agg #[.slice A t.basics.length capa,.slice B t.causes.length capb,.slice G t.gates.length capg]) (q5:v 5 = .int .i64 k) (q6:v 6 = .int .i64 y)
         intro bb hbb
         subst hbb
         refine ⟨_,fun w=>?_,rfl⟩
         go_simp
        case post =>
         intro v w1 hx (q0:v 0 = .slice (some ⟨b0,off,none⟩) l.length capl) (q1:v 1 = .int .i64 k) (q2:v 2 = .pointer (some ⟨b0,off + k,none⟩)) (q3:v 3 = .int .i64 c) (q4:v 4 = .agg #[.slice A t.basics.length capa,.slice B t.causes.length capb,.slice G t.gates.length capg]) (q5:v 5 = .int .i64 k) (q6:v 6 = .int .i64 y) (q7:v 7 = .bool (decide (c < y)))
         simp only [Flow.All,Flow.acts,Act.put]
         go_simp
         have HX9:=Lib.hid (HX.out.trans (hdr.trans hx))
         clear hx hdr q0 q1 q2 q3 q4 q5 q6 q7
         by_cases hcy:c < y
         · have HBAD:Hid (mostE t l k = 11):=by exact (by rw [HME2.out]; simp [hcy,whenI]:mostE t l k = 11)
           have hd:decide (c < y) = true:=decide_eq_true hcy
           go_wp2
           go_ret
           exact ⟨ret_int (by rw [most_at HLEN.out HKS.out HZ.out (by rw [HBAD.out]; decide),HBAD.out]),HXW.out.trans HX9.out⟩
         · have HOK:Hid (mostE t l k = 0):=by exact (by rw [HME2.out]; simp [hcy,whenI]:mostE t l k = 0)
           have hd:decide (c < y) = false:=decide_eq_false hcy
           go_wp2
           go_roundw
           case rel=>exact ⟨k + 1,by omega,by go_num,(fun j hj=>by rcases Nat.lt_or_ge j k with h | h; exact HZ.out j h; rw [show j = k from by omega]; exact HOK.out),HX9.out⟩
           case measure=>simp [intOf]; omega
      · have hne:(E != 0) = true:=by simp [hE0]
        have HBAD:Hid (mostE t l k = E):=by exact (by rw [HME.out]; unfold firstErr; rw [if_neg hE0]:mostE t l k = E)
        have HE0:=Lib.hid hE0
        clear hE0
        go_wp2
        go_ret
        exact ⟨ret_int (by rw [most_at HLEN.out HKS.out HZ.out (by rw [HBAD.out]; exact HE0.out),HBAD.out]),HXW.out.trans HX.out⟩
    · have HZZ:Hid (mostErr t l = 0):=by exact (most_zero HLEN.out (fun j hj=>HZ.out j (by have:=HLEN.out; omega)):mostErr t l = 0)
      clear hx
      go_wp2
      go_ret
      exact ⟨ret_int HZZ.out.symm,HXW.out.trans HX.out⟩
 · have hln:((l.length:Int) != (t.size:Int)) = true:=by rw [bne_iff_ne]; omega
   have HEF:Hid (mostErr t l = 2):=by exact (by unfold mostErr; rw [if_neg hlen]:mostErr t l = 2)
   clear hlen
   go_wp2
   go_ret
   exact ⟨ret_int HEF.out.symm,HXW.out.trans HX1.out⟩
end Go.Proofs
namespace Go.Proofs
open Go.RowKit Go.Tw Go.Flow
theorem sets_len {t:Tree} (hs:t.size ≤ 12) (p:Bool):(t.sets p).length ≤ 4096:=by
 have h:=(setsTo_perm t p (2 ^ t.size)).length_eq
 have h3:(2:Nat) ^ t.size ≤ 2 ^ 12:=Nat.pow_le_pow_right (by omega) hs
 have h4:=List.length_filter_le (fun s=>t.minimalB (bitsOf s) p) (List.range (2 ^ t.size))
 rw [List.length_map] at h
 rw [List.length_range] at h4
 have e:t.sets p = setsTo t p (2 ^ t.size):=rfl
 rw [e]
 omega
set_option maxRecDepth 100000 in
set_option maxHeartbeats 4000000 in
theorem rBound_any (w:World) (v:Value) (t:Tree) (hv:Valid t) (ht:IsTree w v t) :
    Calls Tryz.prog 45 #[v] w fun e w'=>e = .returned (.agg #[.int .i64 (lowest (boundW t) (powN 16 t.size)).num,.int .i64 (lowest (boundW t) (powN 16 t.size)).den]) ∧ Ext w w':=by
 have HV:=Lib.hid hv
 have hsz:=hv.size
 have HSM:=Lib.hid hv.small
 have HCL:=Lib.hid (chances_len t)
 have HSL:=Lib.hid (sets_len hsz false)
 clear hv
 obtain ⟨a,b,c,rfl,h3⟩:=ht
 obtain ⟨A,capa,rfl,hl1,hcap1,_⟩:=h3.basics.opened
 obtain ⟨B,capb,rfl,hl2,hcap2,_⟩:=h3.causes.opened
 obtain ⟨G,capg,rfl,hl3,hcap3,_⟩:=h3.gates.opened
 have HT0:=Lib.hid h3
 clear h3
 go_enter Tryz.func45,Tryz.ntmps45
 go_wp2_with fail
 change Calls _ _ _ ((w.alloc (.cells #[.slice A t.basics.length capa,.slice B t.causes.length capb,.slice G t.gates.length capg] 26)).alloc (.cells #[.int .i64 0,.int .i64 0] 56)) _
 have k0:=Blk.made w 26 #[.slice A t.basics.length capa,.slice B t.causes.length capb,.slice G t.gates.length capg]
 have x0:=Ext.box w (.cells #[.slice A t.basics.length capa,.slice B t.causes.length capb,.slice G t.gates.length capg] 26)
 have es0:(w.alloc (.cells #[.slice A t.basics.length capa,.slice B t.causes.length capb,.slice G t.gates.length capg] 26)).heap.size = w.heap.size + 1:=by simp
 obtain ⟨X0,hX0⟩:∃ X,w.alloc (.cells #[.slice A t.basics.length capa,.slice B t.causes.length capb,.slice G t.gates.length capg] 26) = X:=⟨_,rfl⟩
 rw [hX0] at k0 x0 es0 ⊢
 clear hX0
 have k1:=Blk.made X0 56 #[.int .i64 0,.int .i64 0]
 have x1:=Ext.box X0 (.cells #[.int .i64 0,.int .i64 0] 56)
 have es1:(X0.alloc (.cells #[.int .i64 0,.int .i64 0] 56)).heap.size = X0.heap.size + 1:=by simp
 obtain ⟨X1,hX1⟩:∃ X,X0.alloc (.cells #[.int .i64 0,.int .i64 0] 56) = X:=⟨_,rfl⟩
 rw [hX1] at k1 x1 es1 ⊢
 clear hX1
 replace k0:=k0.ext x1
 have e0:X0.heap.size = w.heap.size + 1:=by omega
 have e1:X1.heap.size = w.heap.size + 1 + 1:=by omega
 rw [e0] at k1
 have HXW:Hid (Ext w X1):=by exact (Ext.trans (x0) x1:Ext w X1)
 have eW:X1.heap.size = w.heap.size + 1 + 1:=e1
 clear x0 es0 e0 x1 es1 e1
 obtain ⟨W,hWW⟩:∃ W,X1 = W:=⟨_,rfl⟩
 rw [hWW] at HXW eW ⊢ k0 k1
 clear hWW
 have HT:=Lib.hid (HT0.out.ext HXW.out)
 have K0:=Lib.hid k0
 have K1:=Lib.hid k1
 clear k0 k1
 refine (Cuts_any _ _ t HV.out.fit HV.out.nodes hsz ⟨_,_,_,rfl,HT.out⟩).mono ?_
 rintro e w3 ⟨xv,rfl,hii,hx3⟩
 have HX3:=Lib.hid hx3
 obtain ⟨ll,hll⟩:∃ ll,t.sets false = ll:=⟨_,rfl⟩
 have HLL:=Lib.hid hll
 rw [hll] at hii HSL
 obtain ⟨Am,capm,rfl,_,_,hcc⟩:=hii.opened
 have HCC:=Lib.hid hcc
 have hlen:=HSL.out
 clear hii hx3 hll hcc
 go_wp2
 go_loopw [4,5] (fun o i wr=>∃ (k:Nat),k ≤ ll.length ∧ i = .int .i64 k ∧ o = .int .i64 (bsum t.chances t.size (ll.take k)) ∧ Ext w3 wr) (fun _ i _=>ll.length - (intOf i).toNat)
 case atStart=>exact ⟨0,Nat.zero_le _,rfl,rfl,Ext.refl _⟩
 case round =>
  obtain ⟨k,hk,rfl,rfl,hx⟩:=hrel
  have HXO:=Lib.hid hx
  by_cases hlt:k < ll.length
  · obtain ⟨b,off,mv,rfl,hbw,hcell,hm⟩:=HCC.out k hlt
    have HTK:Hid (bsum t.chances t.size (ll.take (k + 1)) = bsum t.chances t.size (ll.take k) + btermTo t.chances (ll.getD k []) t.size):=by exact (by rw [List.take_succ_eq_append_getElem hlt,bsum_snoc]; simp [hlt]:bsum t.chances t.size (ll.take (k + 1)) = bsum t.chances t.size (ll.take k) + btermTo t.chances (ll.getD k []) t.size)
    have hb0:=bsum_bd HSM.out (n:=t.size) (by rw [HCL.out]; exact Nat.le_refl _) (ll.take k)
    rw [List.length_take,Nat.min_eq_left hk] at hb0
    obtain ⟨s,hs⟩:∃ s,ll.getD k [] = s:=⟨_,rfl⟩
    rw [hs] at HTK hm
    obtain ⟨S,hS⟩:∃ S,bsum t.chances t.size (ll.take k) = S:=⟨_,rfl⟩
    rw [hS] at HTK hb0 ⊢
    have hbt:=bterm_le HSM.out s (m:=t.size) (by rw [HCL.out]; exact Nat.le_refl _)
    have HM:=Lib.hid hm
    have HCELL:=Lib.hid hcell
    have hkI:(k:Int) < ll.length:=by omega
    have hk4:(k:Int) ≤ 4095:=by omega
    clear hm hs hS hcell hx hbw
    go_wp2
    go_loopw [6,7] (fun y i wr=>∃ (m:Nat),m ≤ t.size ∧ i = .int .i64 m ∧ y = .int .i64 (btermTo t.chances s m) ∧ Ext w3 wr) (fun _ i _=>t.size - (intOf i).toNat)
    case atStart=>exact ⟨0,Nat.zero_le _,rfl,rfl,HXO.out⟩
    case round =>
     obtain ⟨m,hmm,rfl,rfl,hx⟩:=hrel
     have HKX:=Lib.hid (K0.out.ext (HX3.out.trans hx))
     have d0:=HKX.out.cell 0
     have d1:=HKX.out.cell 1
     have d2:=HKX.out.cell 2
     simp only [List.getElem?_toArray,List.getElem?_cons_zero,List.getElem?_cons_succ] at d0 d1 d2
     have hbz:=bterm_le HSM.out s (m:=m) (by rw [HCL.out]; exact hmm)
     obtain ⟨z,hz⟩:∃ z,btermTo t.chances s m = z:=⟨_,rfl⟩
     have HZ:=Lib.hid hz
     rw [hz] at hbz ⊢
     clear hz
     go_wp2_with fail
     refine (Size_any _ _ t ⟨_,_,_,rfl,HT.out.ext (HX3.out.trans hx)⟩).mono ?_
     rintro e w4 ⟨rfl,hx4⟩
     replace d0:=hx4.cell d0
     replace d1:=hx4.cell d1
     replace d2:=hx4.cell d2
     have HX4:=Lib.hid (hx.trans hx4)
     clear hx hx4
     by_cases hlm:m < t.size
     · have hcell:=HX4.out.cell HCELL.out
       have hnext:btermTo t.chances s (m + 1) = z * if has s m then ix t.chances m else 16:=by rw [btermTo,HZ.out]
       have hbn:=bterm_le HSM.out s (m:=m + 1) (by rw [HCL.out]; exact hlm)
       rw [hnext] at hbn
       rw [ix_chances hlm] at hbn hnext
       have HNX:=Lib.hid hnext
       clear hnext
       go_wp2_with fail
       refine (HasInt_any _ _ s m (HM.out.ext HX4.out)).mono ?_
       rintro e w5 ⟨rfl,rfl⟩
       cases hh:has s (m:Int) with
       | true =>
         rw [hh,if_pos rfl] at hbn
         rw [hh,if_pos rfl] at HNX
         go_wp2_with fail
         refine (chance_any _ _ t m ⟨_,_,_,rfl,HT.out.ext (HX3.out.trans HX4.out)⟩ hlm).mono ?_
         rintro e w6 ⟨rfl,hx6⟩
         have HX6:=Lib.hid (HX4.out.trans hx6)
         obtain ⟨y,hy⟩:∃ y,z * t.chanceAt m = y:=⟨_,rfl⟩
         rw [hy] at hbn HNX
         clear hx6 d0 d1 d2 hcell
         go_wp2
         go_roundw
         case rel=>exact ⟨m + 1,by omega,by go_num,by rw [HNX.out],HX6.out⟩
         case measure=>simp [intOf]; omega
       | false =>
         rw [hh] at hbn HNX
         simp only [Bool.false_eq_true,if_false] at hbn
         have HNX2:Hid (btermTo t.chances s (m + 1) = z * 16):=by exact (by rw [HNX.out]; simp:btermTo t.chances s (m + 1) = z * 16)
         obtain ⟨y,hy⟩:∃ y,z * 16 = y:=⟨_,rfl⟩
         rw [hy] at hbn HNX2
         clear d0 d1 d2 hcell HNX
         go_wp2
         go_roundw
         case rel=>exact ⟨m + 1,by omega,by go_num,by rw [HNX2.out],HX4.out⟩
         case measure=>simp [intOf]; omega
     · have e:m = t.size:=by omega
       subst e
       have hbz2:z = btermTo t.chances s t.size:=HZ.out.symm
       have HB2:=Lib.hid hbz2
       clear hbz2 d0 d1 d2 hbt
       go_wp2
       go_roundw
       case rel=>exact ⟨k + 1,by omega,by go_num,by rw [HTK.out,HB2.out],HX4.out⟩
       case measure=>simp [intOf]; omega
  · have hkl:k = ll.length:=by omega
    have HB:Hid (bsum t.chances t.size (ll.take k) = boundW t):=by exact (by rw [hkl,List.take_length,← HLL.out]; rfl:bsum t.chances t.size (ll.take k) = boundW t)
    have hb0:=bsum_bd HSM.out (n:=t.size) (by rw [HCL.out]; exact Nat.le_refl _) (ll.take k)
    rw [List.length_take,Nat.min_eq_left hk,HB.out] at hb0
    rw [HB.out]
    have HKX:=Lib.hid (K0.out.ext (HX3.out.trans hx))
    have d0:=HKX.out.cell 0
    have d1:=HKX.out.cell 1
    have d2:=HKX.out.cell 2
    simp only [List.getElem?_toArray,List.getElem?_cons_zero,List.getElem?_cons_succ] at d0 d1 d2
    have hpb:=powN16_bd hsz
    obtain ⟨B0,hB0⟩:∃ x,boundW t = x:=⟨_,rfl⟩
    rw [hB0] at hb0 ⊢
    have HBQ:=Lib.hid hB0
    clear hkl HB hB0
    go_wp2_with fail
    refine (Size_any _ _ t ⟨_,_,_,rfl,HT.out.ext (HX3.out.trans hx)⟩).mono ?_
    rintro e w4 ⟨rfl,hx4⟩
    have HX4:=Lib.hid (hx.trans hx4)
    clear hx hx4 d0 d1 d2
    go_wp2_with fail
    refine (power16_any _ _ hsz).mono ?_
    rintro e w5 ⟨rfl,rfl⟩
    go_wp2_with fail
    refine (Lowest_any _ _ _ hb0.1 (by omega) (by omega) (by omega)).mono ?_
    rintro e w6 ⟨rfl,hx6⟩
    have HK1:=K1.out.ext ((HX3.out.trans HX4.out).trans hx6)
    have HX6:=Lib.hid ((HX3.out.trans HX4.out).trans hx6)
    clear hx6
    go_wp2_with (refine wpList_store_blk rfl _ _ 56 rfl Tryz.sizeRat rfl rfl HK1 rfl rfl ?_ ?_; (focus (intro u hu; simp only [List.mem_cons,List.not_mem_nil,or_false] at hu; rcases hu with rfl | rfl <;> rfl)); intro w8 hb8 hl8 ho8)
    refine bodyPost_ret (results_blk Tryz.results45 rfl hb8 Tryz.aggRat Tryz.sizeRat) rfl ?_
    exact ⟨by rw [HBQ.out],Below.trans (HXW.out.trans HX6.out) (hl8 _ (by omega))⟩
end Go.Proofs
