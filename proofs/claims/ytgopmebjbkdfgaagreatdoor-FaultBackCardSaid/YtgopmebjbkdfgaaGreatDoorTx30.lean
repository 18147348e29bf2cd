/- The parts of a string between a byte; strings.Cut and strings.Split in these words. Plain law. What both sides read a text as: numbers, lines, trees. Plain law. Contracts of the reference's Split and Number, and of the program's integer. Contracts of the reference's Number, and of the program's integer. -/
import Derived.Lib.Split
import Derived.Lib.SplitLaws
import Derived.Lib.CutLaws
import Derived.Lib.IndexMore
import Derived.Test.YtgopmebjbkdfgaaGreatDoorTx25
import Derived.Test.YtgopmebjbkdfgaaGreatDoorTx24
import Derived.Test.YtgopmebjbkdfgaaGreatDoorTx04
import Derived.Laws.DeepStrings4
set_option maxRecDepth 1000000
set_option maxHeartbeats 64000000
set_option linter.unusedVariables false
set_option linter.unusedSimpArgs false
set_option linter.constructorNameAsVariable false
namespace Go.Proofs
open Go.Lib
def parts (c:UInt8):List UInt8 -> List (List UInt8)
 | []=>[[]]
 | b :: l=>if b = c then [] :: parts c l else match parts c l with
   | []=>[[b]]
   | x :: r=>(b :: x) :: r
theorem Y2a (c:UInt8):parts c [] = [[]]:=rfl
theorem parts_eq (c:UInt8) (l:List UInt8):parts c (c :: l) = [] :: parts c l:=by rw [parts,if_pos rfl]
theorem Q5b (c:UInt8):∀ l,∃ x r,parts c l = x :: r
 | []=>⟨_,_,rfl⟩
 | b :: l=>by
   unfold parts
   split
   . exact ⟨_,_,rfl⟩
   . split <;> exact ⟨_,_,rfl⟩
theorem X1o {c b:UInt8} {l x:List UInt8} {r:List (List UInt8)} (h:b ≠ c) (hp:parts c l = x :: r):parts c (b :: l) = (b :: x) :: r:=by
 rw [parts,if_neg h,hp]
theorem Y0m {c:UInt8} {x r:List UInt8} (h:c ∉ x):parts c (x ++ c :: r) = x :: parts c r:=by
 induction x with
 | nil=>exact parts_eq c r
 | cons b x ih =>
   rw [List.mem_cons,not_or] at h;exact X1o (fun e=>h.1 e.symm) (ih h.2)
theorem Y2s {c:UInt8} {x:List UInt8} (h:c ∉ x):parts c x = [x]:=by
 induction x with
 | nil=>rfl
 | cons b x ih =>
   rw [List.mem_cons,not_or] at h;exact X1o (fun e=>h.1 e.symm) (ih h.2)
theorem X1r (c:UInt8):∀ l:List UInt8,(parts c l).length <= l.length + 1
 | []=>by simp [parts]
 | b :: l=>by
   have ih:=X1r c l;obtain ⟨x,r,hp⟩:=Q5b c l
   by_cases hb:b = c
   . subst hb; rw [parts_eq]; simp only [List.length_cons]; omega
   . rw [X1o hb hp]; rw [hp] at ih; simp only [List.length_cons] at ih ⊢; omega
theorem Q6l (c:UInt8):∀ (l:List UInt8),∀ x ∈ parts c l,x.length <= l.length
 | [],x,hx=>by
   rw [Y2a,List.mem_singleton] at hx;subst hx; simp
 | b :: l,x,hx=>by
   obtain ⟨y,r,hp⟩:=Q5b c l
   by_cases hb:b = c
   . subst hb
     rw [parts_eq] at hx
     rcases List.mem_cons.1 hx with rfl | hx
     . simp
     . have:=Q6l b l x hx; simp only [List.length_cons]; omega
   . rw [X1o hb hp] at hx
     rcases List.mem_cons.1 hx with rfl | hx
     . have:=Q6l c l y (by rw [hp]; exact List.mem_cons_self ..); simp only [List.length_cons]; omega
     . have:=Q6l c l x (by rw [hp]; exact List.mem_cons_of_mem _ hx); simp only [List.length_cons]; omega
theorem X1w {c:UInt8} {x r:List UInt8} (h:c ∉ x):index (x ++ c :: r) [c] = x.length:=by
 induction x with
 | nil=>show index (c :: r) [c] = 0; unfold index; rw [if_pos (by simp)]
 | cons b x ih =>
   rw [List.mem_cons,not_or] at h;show index (b :: (x ++ c :: r)) [c] = _;unfold index;have hb:([c].isPrefixOf (b :: (x ++ c :: r))) = false:=by
    show (c == b && List.isPrefixOf [] _) = false;rw [beq_false_of_ne h.1]; rfl
   rw [hb,ih h.2];have:((x.length:Int) == -1) = false:=by rw [beq_eq_false_iff_ne]; omega
   rw [this];simp
theorem X9u {c:UInt8} {x:List UInt8} (h:c ∉ x):index x [c] = -1:=by
 induction x with
 | nil=>rfl
 | cons b x ih =>
   rw [List.mem_cons,not_or] at h;unfold index;have hb:([c].isPrefixOf (b :: x)) = false:=by
    show (c == b && List.isPrefixOf [] _) = false;rw [beq_false_of_ne h.1]; rfl
   rw [hb,ih h.2];rfl
theorem Z9a {c:UInt8} {x r:List UInt8} (h:c ∉ x):cut (x ++ c :: r) [c] = (x,r,true):=by
 unfold cut;rw [X1w h,if_pos (by omega)]
 simp
theorem Z8g {c:UInt8} {x:List UInt8} (h:c ∉ x):cut x [c] = (x,[],false):=by
 unfold cut;rw [X9u h,if_neg (by decide)]
theorem X2y (c:UInt8):∀ (n:Nat) (s:List UInt8),s.length <= n -> splitK [c] 0 (s.count c) s = parts c s
 | n,s,hn=>by
   by_cases h:c ∈ s
   . obtain ⟨x,r,rfl,hx⟩:=List.eq_append_cons_of_mem h
     have e:(x ++ c :: r).count c = r.count c + 1:=by
      rw [List.count_append,List.count_cons_self,List.count_eq_zero_of_not_mem hx]; omega
     rw [e,splitK,X1w hx];have h1:((x.length:Int) == -1) = false:=by rw [beq_eq_false_iff_ne]; omega
     rw [h1,Y0m hx];simp only [List.length_append,List.length_cons] at hn;cases n with
     | zero=>omega
     | succ n =>
       have e2:(x ++ c :: r).drop (((x.length:Int)).toNat + [c].length) = r:=by simp
       rw [e2];simp only [Bool.false_eq_true,if_false,X2y c n r (by omega)]
       simp
   . rw [List.count_eq_zero_of_not_mem h,Y2s h]
     rfl
def Q2u (c:UInt8) (s:ByteArray):List ByteArray:=(parts c s.data.toList).map fun l=>⟨l.toArray⟩
theorem X3i (c:UInt8) (s:ByteArray):splitB ⟨#[c]⟩ 0 (countB s ⟨#[c]⟩) s = Q2u c s:=by
 have h:=splitB_data ⟨#[c]⟩ 0 (countB s ⟨#[c]⟩) s;have e:countB s ⟨#[c]⟩ = s.data.toList.count c:=count_one c s.data.toList;rw [e] at h ⊢;have h2:splitK [c] 0 (s.data.toList.count c) s.data.toList = parts c s.data.toList:=X2y c _ _ (Nat.le_refl _);have h3:(splitB ⟨#[c]⟩ 0 (s.data.toList.count c) s).map (·.data.toList) = parts c s.data.toList:=h.trans h2;unfold Q2u;rw [<- h3,List.map_map];have e4:((fun l=>(⟨l.toArray⟩:ByteArray)) ∘ fun x:ByteArray=>x.data.toList) = id:=by
  funext x
  rfl
 rw [e4,List.map_id]
theorem Q8g (c:UInt8) (s:ByteArray):∃ x r,Q2u c s = x :: r:=by
 obtain ⟨x,r,h⟩:=Q5b c s.data.toList;unfold Q2u;rw [h];exact ⟨_,_,rfl⟩
end Go.Proofs
namespace Go.Proofs
open Go.Tw
def X3h (b:UInt8):Bool:=decide (48 <= b.toNat) && decide (b.toNat <= 57)
def Q8d:List UInt8 -> Int -> Int
 | [],n=>n
 | b :: l,n=>Q8d l (10 * n + ((b.toNat:Int) - 48))
def Q8b (l:List UInt8):Bool:=!l.isEmpty && decide (l.length <= 9) && l.all X3h && (decide (l.length = 1) || !(l.head? == some 48))
def numOf (l:List UInt8):Option Int:=if Q8b l then some (Q8d l 0) else none
def numsOf:List (List UInt8) -> Option (List Int)
 | []=>some []
 | w :: r=>match numOf w with
   | none=>none
   | some n=>(numsOf r).map (n :: ·)
def Z0k:List UInt8:=[98,97,115,105,99]
def Z5k:List UInt8:=[99,97,117,115,101]
def Z7y:List UInt8:=[103,97,116,101]
def Q2e (t:Tree) (form name:List UInt8) (n:Int) (ns:List Int):Option Tree :=
 if (form == Z0k && ns.isEmpty && t.causes.isEmpty && t.gates.isEmpty) = true then some ⟨t.basics ++ [⟨⟨name.toArray⟩,n⟩],t.causes,t.gates⟩
 else if (form == Z5k && t.gates.isEmpty) = true then some ⟨t.basics,t.causes ++ [⟨⟨name.toArray⟩,n,ns⟩],t.gates⟩
 else if (form == Z7y) = true then some ⟨t.basics,t.causes,t.gates ++ [⟨⟨name.toArray⟩,n,ns⟩]⟩
 else none
def X4j (t:Tree):List (List UInt8) -> Option Tree
 | form :: name :: rest=>if name.isEmpty then none else match numsOf rest with
   | some (n :: ns)=>Q2e t form name n ns
   | _=>none
 | _=>none
def Q0z (t:Tree) (line:List UInt8):Option Tree:=X4j t (parts 32 line)
def noT:Tree:=⟨[],[],[]⟩
def Q4x:Tree -> Nat -> List (List UInt8) -> Tree × Int × Int
 | _,k,[]=>(noT,(k:Int),26)
 | t,k,[x]=>if x.isEmpty then (if t.err = 0 then (t,0,0) else (noT,(k:Int),t.err)) else (noT,(k:Int),26)
 | t,k,x :: y :: r=>match Q0z t x with
   | none=>(noT,(k:Int),26)
   | some t'=>Q4x t' (k + 1) (y :: r)
def Q3s (s:ByteArray):Tree × Int × Int:=if 4096 < s.size then (noT,0,27) else Q4x noT 0 (parts 10 s.data.toList)
theorem Q6r (w:List UInt8) (r:List (List UInt8)):numsOf (w :: r) = (numOf w).bind fun n=>(numsOf r).map (n :: ·):=by
 rw [numsOf];cases numOf w <;> rfl
theorem X7l:∀ (a b:List (List UInt8)),numsOf (a ++ b) = (numsOf a).bind fun x=>(numsOf b).map (x ++ ·)
 | [],b=>by
   show numsOf b = (numsOf b).map ([] ++ ·);cases numsOf b <;> rfl
 | w :: r,b=>by
   show numsOf (w :: (r ++ b)) = _;rw [Q6r,Q6r,X7l r b];cases numOf w with
   | none=>rfl
   | some n =>
     cases numsOf r with
     | none=>rfl
     | some x=>cases numsOf b <;> rfl
theorem Y0l {t t':Tree} {form name:List UInt8} {n:Int} {ns:List Int} (h:Q2e t form name n ns = some t') :
    t'.basics.length + t'.causes.length + t'.gates.length = t.basics.length + t.causes.length + t.gates.length + 1:=by
 unfold Q2e at h
 split at h
 . injection h with h; subst h; simp; omega
 . split at h
   . injection h with h; subst h; simp; omega
   . split at h
     . injection h with h; subst h; simp; omega
     . cases h
end Go.Proofs
namespace Go.Proofs
open Go.RowKit Go.Tw Go.Flow
def hdL (x:List UInt8):List (List UInt8) -> List (List UInt8)
 | []=>[x]
 | y :: r=>(x ++ y) :: r
def toB (l:List UInt8):ByteArray:=⟨l.toArray⟩
theorem X4x (s:ByteArray) (a b:Nat):s.extract a b = toB ((s.data.toList.drop a).take (b - a)):=by
 apply ByteArray.ext
 apply Array.toList_inj.1
 exact Lib.extract_data s a b
def X3d (c:UInt8) (s:ByteArray) (l:List ByteArray) (fr k:Nat):Prop :=
 fr <= k /\ l.length <= k /\ (k <= s.size -> Q2u c s = l ++ (hdL ((s.data.toList.drop fr).take (k - fr)) (parts c (s.data.toList.drop k))).map toB) /\ (s.size < k -> l = Q2u c s)
theorem Y3z (c:UInt8) (s:ByteArray):X3d c s [] 0 0:=by
 refine ⟨Nat.le_refl _,Nat.le_refl _,fun _=>?_,fun h=>absurd h (Nat.not_lt_zero _)⟩;obtain ⟨x,r,hp⟩:=Q5b c s.data.toList;unfold Q2u;show _ = [] ++ (hdL ((s.data.toList.drop 0).take 0) (parts c (s.data.toList.drop 0))).map toB;rw [List.drop_zero,hp];rfl
theorem X1l {s:ByteArray} {k:Nat} (h:k < s.size):s.data.toList.drop k = (s[k]'h) :: s.data.toList.drop (k + 1):=by
 rw [List.drop_eq_getElem_cons (by simpa using h)]
 rfl
theorem Z0a {s:ByteArray} {f k:Nat} (h:k < s.size) (hf:f <= k):(s.data.toList.drop f).take (k + 1 - f) = (s.data.toList.drop f).take (k - f) ++ [s[k]'h]:=by
 rw [show k + 1 - f = (k - f) + 1 by omega,List.take_succ_eq_append_getElem (by simp; omega)]
 congr 2
 rw [List.getElem_drop];simp only [show f + (k - f) = k by omega]
 rfl
theorem Z4p {c:UInt8} {s:ByteArray} {l:List ByteArray} {fr k:Nat} (h:X3d c s l fr k) (hk:k < s.size) (hc:s[k]'hk ≠ c):X3d c s l fr (k + 1):=by
 obtain ⟨h1,h2,h3,_⟩:=h;refine ⟨by omega,by omega,fun _=>?_,fun h=>by omega⟩
 rw [h3 (by omega)]
 congr 1
 obtain ⟨x,r,hp⟩:=Q5b c (s.data.toList.drop (k + 1));rw [X1l hk,X1o hc hp,hp,Z0a hk h1];show ((_ ++ _ :: x) :: r).map toB = ((_ ++ x) :: r).map toB;rw [List.append_assoc]; rfl
theorem Z0x {c:UInt8} {s:ByteArray} {l:List ByteArray} {fr k:Nat} (h:X3d c s l fr k) (hk:k < s.size) (hc:s[k]'hk = c):X3d c s (l ++ [s.extract fr k]) (k + 1) (k + 1):=by
 obtain ⟨h1,h2,h3,_⟩:=h;refine ⟨Nat.le_refl _,by simp; omega,fun _=>?_,fun h=>by omega⟩
 rw [h3 (by omega),X4x]
 obtain ⟨x,r,hp⟩:=Q5b c (s.data.toList.drop (k + 1));rw [X1l hk,hc,parts_eq,hp,Nat.sub_self,List.append_assoc]
 congr 1
 show ((_ ++ []) :: x :: r).map toB = [_] ++ (([] ++ x) :: r).map toB;rw [List.append_nil]; rfl
theorem Y9f {c:UInt8} {s:ByteArray} {l:List ByteArray} {fr k:Nat} (h:X3d c s l fr k) (hk:k = s.size):X3d c s (l ++ [s.extract fr k]) (k + 1) (k + 1):=by
 obtain ⟨h1,h2,h3,_⟩:=h;refine ⟨Nat.le_refl _,by simp; omega,fun _=>by omega,fun _=>?_⟩
 have e:s.data.toList.drop k = []:=List.drop_eq_nil_of_le (by simp; omega)
 rw [h3 (by omega),X4x,e,Y2a]
 congr 1
 show [_] = [toB (_ ++ [])];rw [List.append_nil]
theorem X7m (w:World) (s:ByteArray) (c:UInt8) (hs:s.size <= 5000) :
    Calls Tryz.prog 30 #[.string s,.int .u8 (c.toNat:Int)] w fun e w'=>∃ v,e = .returned v /\ Q0s w' w.heap.size 9 .string v (Q2u c s) /\ Ext w w':=by
 obtain ⟨i0,hi,hz0,hz1,hz2⟩:=info_parts Tryz.X9j;go_enter Tryz.func30,Tryz.ntmps30;go_wp2
 go_loopw [5,6,7] (fun o f i wr=>∃ (k fr:Nat) (l:List ByteArray),k <= s.size + 1 /\ i = .int .i64 k /\ f = .int .i64 fr /\ X3d c s l fr k /\ Q0s wr w.heap.size 9 .string o l /\ Ext w wr) (fun _ _ i _=>s.size + 1 - (intOf i).toNat)
 case atStart=>exact ⟨0,0,[],Nat.zero_le _,rfl,rfl,Y3z c s,Q0s.nil _ _ _ _,Ext.refl _⟩
 case round =>
  obtain ⟨k,fr,l,hk,rfl,rfl,hr,hown,hx⟩:=hrel;have HR:=Lib.hid hr;have hfr:=hr.1;have hll:l.length <= 5001:=by have:=hr.2.1; omega
  clear hr
  by_cases hlt:k < s.size
  . have hne:((k:Int) == (s.size:Int)) = false:=by rw [beq_eq_false_iff_ne]; omega
    have hle:(k:Int) <= (s.size:Int):=by omega
    by_cases hc:s[k]'hlt = c
    . have hb:(((s[k]'hlt).toNat:Int) == (c.toNat:Int)) = true:=by rw [hc]; exact beq_self_eq_true _
      have HN:=Lib.hid (Z0x HR.out hlt hc);clear hc;go_wp2_with (at_builtin; refine wpList_append_own _ rfl _ _ 72 rfl (w.heap.size) 9 i0 (.string emp) 1 16 Tryz.underlying72 hi hz0 hz1 hz2 rfl (by decide) _ _ _ rfl (World.ownsRow.alloc hown _) ⟨wr.heap.size,0,none⟩ 1 1 [.string (s.extract fr k)] rfl rfl ?_ ?_ ?_ ?_ ?_ ?_; exact Q5k _ _ _; (focus (simp [Value.oneCell'])); (focus (unfold maxLen; omega)); (focus omega); (focus (have:=hx.size; simp at this ⊢; omega)); intro v' w1 hown' hgrow _)
      have hx':=Q3u hx hown (Nat.le_refl _) hgrow;go_wp2;go_roundw
      case rel=>exact ⟨k + 1,k + 1,_,by omega,by go_num,by go_num,HN.out,Q0s.snoc hown',hx'⟩
      case measure=>simp [intOf]; omega
    . have hb:(((s[k]'hlt).toNat:Int) == (c.toNat:Int)) = false:=by
       rw [beq_eq_false_iff_ne];exact fun e=>hc (UInt8.toNat_inj.1 (by omega))
      have HN:=Lib.hid (Z4p HR.out hlt hc);clear hc;go_wp2;go_roundw
      case rel=>exact ⟨k + 1,fr,l,by omega,by go_num,rfl,HN.out,hown,hx⟩
      case measure=>simp [intOf]; omega
  . by_cases he:k = s.size
    . have hne:((k:Int) == (s.size:Int)) = true:=by rw [beq_iff_eq]; omega
      have hle:(k:Int) <= (s.size:Int):=by omega
      have HN:=Lib.hid (Y9f HR.out he);have HK:=Lib.hid he;clear he;go_wp2_with (at_builtin; refine wpList_append_own _ rfl _ _ 72 rfl (w.heap.size) 9 i0 (.string emp) 1 16 Tryz.underlying72 hi hz0 hz1 hz2 rfl (by decide) _ _ _ rfl (World.ownsRow.alloc hown _) ⟨wr.heap.size,0,none⟩ 1 1 [.string (s.extract fr k)] rfl rfl ?_ ?_ ?_ ?_ ?_ ?_; exact Q5k _ _ _; (focus (simp [Value.oneCell'])); (focus (unfold maxLen; omega)); (focus omega); (focus (have:=hx.size; simp at this ⊢; omega)); intro v' w1 hown' hgrow _)
      have hx':=Q3u hx hown (Nat.le_refl _) hgrow;go_wp2;go_roundw
      case rel=>exact ⟨k + 1,k + 1,_,by have:=HK.out; omega,by go_num,by go_num,HN.out,Q0s.snoc hown',hx'⟩
      case measure=>simp [intOf]; omega
    . have hle:¬ (k:Int) <= (s.size:Int):=by omega
      have HE:=Lib.hid (HR.out.2.2.2 (by omega))
      clear he;go_wp2;go_ret;exact ⟨_,rfl,by rw [<- HE.out]; exact hown,hx⟩
end Go.Proofs
namespace Go.Proofs
open Go.RowKit Go.Tw Go.Flow
theorem Y0n (b:UInt8):X3h b = true ↔ 48 <= b.toNat /\ b.toNat <= 57:=by
 unfold X3h;rw [Bool.and_eq_true,decide_eq_true_iff,decide_eq_true_iff]
theorem X4p {s:ByteArray} (h:s.size = 0):Q8b s.data.toList = false:=by
 have:s.data.toList = []:=List.length_eq_zero_iff.1 (by simpa using h)
 rw [this]; rfl
theorem X7a {s:ByteArray} (h:9 < s.size):Q8b s.data.toList = false:=by
 unfold Q8b;rw [decide_eq_false (by simp; omega),Bool.and_false,Bool.false_and,Bool.false_and]
theorem Z0d {s:ByteArray} (h:0 < s.size):s.data.toList.head? = some (s[0]'h):=by
 rw [List.head?_eq_getElem?,List.getElem?_eq_getElem (by simpa using h)]
 rfl
theorem X7f {s:ByteArray} (h:1 < s.size) (h0:s[0]'(by omega) = 48):Q8b s.data.toList = false:=by
 unfold Q8b;rw [Z0d (by omega),h0,decide_eq_false (p:=s.data.toList.length = 1) (by simp; omega)]
 simp
theorem X2j {s:ByteArray} (h0:0 < s.size) (h9:s.size <= 9) (h1:s.size = 1 ∨ s[0]'h0 ≠ 48):Q8b s.data.toList = s.data.toList.all X3h:=by
 unfold Q8b;have e1:s.data.toList.isEmpty = false:=by
  rw [List.isEmpty_eq_false_iff];intro e;have h2:s.data.toList.length = 0:=by rw [e]; rfl
  have h3:s.data.toList.length = s.size:=Array.length_toList;omega
 rw [e1,decide_eq_true (by simpa using h9),Z0d h0]
 rcases h1 with h1 | h1
 . rw [decide_eq_true (p:=s.data.toList.length = 1) (by simpa using h1)]; simp
 . have:(some (s[0]'h0) == some (48:UInt8)) = false:=by rw [beq_eq_false_iff_ne]; intro e; injection e with e; exact h1 e
   rw [this]; simp
def Z5m (s:ByteArray) (n:Int) (k:Nat):Prop:=Q8d (s.data.toList.drop k) n = Q8d s.data.toList 0 /\ (s.data.toList.drop k).all X3h = s.data.toList.all X3h /\ 0 <= n /\ n < 10 ^ k
theorem Y0r (s:ByteArray):Z5m s 0 0:=⟨by rw [List.drop_zero],by rw [List.drop_zero],by decide,by decide⟩
theorem Y5u {s:ByteArray} {n:Int} {k:Nat} (h:Z5m s n k) (hk:k < s.size) (hd:48 <= (s[k]'hk).toNat /\ (s[k]'hk).toNat <= 57):Z5m s (10 * n + (((s[k]'hk).toNat:Int) - 48)) (k + 1):=by
 obtain ⟨h1,h2,h3,h4⟩:=h;rw [X1l hk] at h1 h2;rw [List.all_cons,(Y0n _).2 hd,Bool.true_and] at h2;refine ⟨h1,h2,by omega,?_⟩
 rw [Int.pow_succ];omega
theorem Z5n {s:ByteArray} {n:Int} {k:Nat} (h:Z5m s n k) (hk:k < s.size) (hd:¬ (48 <= (s[k]'hk).toNat /\ (s[k]'hk).toNat <= 57)):Q8b s.data.toList = false:=by
 obtain ⟨_,h2,_⟩:=h;rw [X1l hk,List.all_cons] at h2;have:X3h (s[k]'hk) = false:=by rw [<- Bool.not_eq_true,Y0n]; exact hd
 rw [this,Bool.false_and] at h2;unfold Q8b;rw [<- h2,Bool.and_false,Bool.false_and]
theorem Y8v {s:ByteArray} {n:Int} {k:Nat} (h:Z5m s n k) (hk:¬ k < s.size):s.data.toList.all X3h = true /\ Q8d s.data.toList 0 = n:=by
 obtain ⟨h1,h2,_⟩:=h;rw [List.drop_eq_nil_of_le (by simpa using hk)] at h1 h2
 exact ⟨h2.symm,h1.symm⟩
theorem Z5l {s:ByteArray} {n:Int} {k:Nat} (h:Z5m s n k) (hk:k <= 9):0 <= n /\ n <= 1000000000:=by
 obtain ⟨_,_,h3,h4⟩:=h;have:(10:Nat) ^ k <= 10 ^ 9:=Nat.pow_le_pow_right (by omega) hk
 have h5:=Int.ofNat_le.2 this;rw [Int.natCast_pow] at h5;exact ⟨h3,by have e:((10:Nat):Int) = 10:=rfl; rw [e] at h5; have e2:((10 ^ 9:Nat):Int) = 1000000000:=rfl; omega⟩
def X5j (s:ByteArray):Int:=if Q8b s.data.toList = true then Q8d s.data.toList 0 else 0
def okR (s:ByteArray):Bool:=Q8b s.data.toList
theorem X5l (w:World) (s:ByteArray) (hs:s.size <= 5000) :
    Calls Tryz.prog 86 #[.string s] w fun e w'=>e = .returned (.tuple #[.int .i64 (X5j s),.bool (okR s)]) /\ w = w':=by
 have hno:Q8b s.data.toList = false -> X5j s = 0 /\ okR s = false:=fun h=>⟨by unfold X5j; rw [h]; rfl,h⟩
 have HNO:=Lib.hid hno;clear hno
 by_cases hz:s.size = 0
 . have HR:=Lib.hid (HNO.out (X4p hz))
   have hz':((s.size:Int) == 0) = true:=by rw [beq_iff_eq]; omega
   clear hz;go_enter Tryz.func86,Tryz.ntmps86;go_wp2;go_ret2;exact ⟨by rw [HR.out.1,HR.out.2]; rfl,rfl⟩
 have hz':((s.size:Int) == 0) = false:=by rw [beq_eq_false_iff_ne]; omega
 by_cases h9:9 < s.size
 . have HR:=Lib.hid (HNO.out (X7a h9))
   have h9':(9:Int) < (s.size:Int):=by omega
   clear hz h9;go_enter Tryz.func86,Tryz.ntmps86;go_wp2;go_ret2;exact ⟨by rw [HR.out.1,HR.out.2]; rfl,rfl⟩
 have h9':¬ (9:Int) < (s.size:Int):=by omega
 have hp:0 < s.size:=by omega
 have main:∀ (_:s.size = 1 ∨ s[0]'hp ≠ 48),Calls Tryz.prog 86 #[.string s] w fun e w'=>e = .returned (.tuple #[.int .i64 (X5j s),.bool (okR s)]) /\ w = w':=by
  intro hc;have HOK:=Lib.hid (X2j hp (by omega) hc)
  have hgt:(s.size = 1 /\ ¬ (1:Int) < (s.size:Int)) ∨ ((1:Int) < (s.size:Int) /\ (((s[0]'hp).toNat:Int) == 48) = false):=by
   rcases hc with hc | hc
   . exact .inl ⟨hc,by omega⟩
   . by_cases h1:s.size = 1
     . exact .inl ⟨h1,by omega⟩
     . exact .inr ⟨by omega,by rw [beq_eq_false_iff_ne]; exact fun e=>hc (UInt8.toNat_inj.1 (by show _ = 48; omega))⟩
  clear hc hz
  rcases hgt with ⟨_,hg⟩ | ⟨hg,hb⟩
  all_goals
   go_enter Tryz.func86,Tryz.ntmps86;go_wp2
   go_loop [4,5] (fun a i=>∃ (k:Nat) (n:Int),k <= s.size /\ i = .int .i64 k /\ a = .int .i64 n /\ Z5m s n k) (fun _ i=>s.size - (intOf i).toNat)
   case atStart=>exact ⟨0,0,Nat.zero_le _,rfl,rfl,Y0r s⟩
   case round =>
    obtain ⟨k,n,hk,rfl,rfl,hr⟩:=hrel;have HR:=Lib.hid hr;have hnb:=Z5l hr (by omega)
    clear hr
    by_cases hlt:k < s.size
    . by_cases hd:48 <= (s[k]'hlt).toNat /\ (s[k]'hlt).toNat <= 57
      . have HN:=Lib.hid (Y5u HR.out hlt hd)
        obtain ⟨b,hbb⟩:∃ b,(s[k]'hlt).toNat = b:=⟨_,rfl⟩;rw [hbb] at hd HN;have f1:¬ (b:Int) < 48:=by omega
        have f2:¬ (57:Int) < (b:Int):=by omega
        have w1:IntKind.i64.wrap (10 * n) = 10 * n:=Q3v _ (by omega) (by omega)
        have w2:IntKind.u8.wrap ((b:Int) - 48) = (b:Int) - 48:=by rw [IntKind.wrap_u8]; omega
        have w3:IntKind.i64.wrap ((b:Int) - 48) = (b:Int) - 48:=Q3v _ (by omega) (by omega)
        have w4:IntKind.i64.wrap (10 * n + ((b:Int) - 48)) = 10 * n + ((b:Int) - 48):=Q3v _ (by omega) (by omega)
        clear hd;go_wp2;go_round
        case rel=>exact ⟨k + 1,_,by omega,by go_num,rfl,HN.out⟩
        case measure=>simp [intOf]; omega
      . have HX:=Lib.hid (HNO.out (Z5n HR.out hlt hd))
        obtain ⟨b,hbb⟩:∃ b,(s[k]'hlt).toNat = b:=⟨_,rfl⟩;rw [hbb] at hd
        by_cases h48:(b:Int) < 48
        . clear hd
          go_wp2;go_ret2;exact ⟨by rw [HX.out.1,HX.out.2]; rfl,rfl⟩
        . have f2:(57:Int) < (b:Int):=by omega
          clear hd;go_wp2;go_ret2;exact ⟨by rw [HX.out.1,HX.out.2]; rfl,rfl⟩
    . have he:=Y8v HR.out hlt
      have HX:Hid (X5j s = n /\ okR s = true):=by
       exact (by
        have e:Q8b s.data.toList = true:=by rw [HOK.out]; exact he.1
        exact ⟨by unfold X5j; rw [if_pos e]; exact he.2,e⟩:X5j s = n /\ okR s = true)
      clear he;go_wp2;go_ret2;exact ⟨by rw [HX.out.1,HX.out.2]; rfl,rfl⟩
 by_cases h1:s.size = 1
 . exact main (.inl h1)
 . by_cases h48:s[0]'hp = 48
   . have HR:=Lib.hid (HNO.out (X7f (by omega) h48))
     have hg:(1:Int) < (s.size:Int):=by omega
     have hb:(((s[0]'hp).toNat:Int) == 48) = true:=by rw [h48]; rfl
     clear main h48 hz h1;go_enter Tryz.func86,Tryz.ntmps86;go_wp2;go_ret2;exact ⟨by rw [HR.out.1,HR.out.2]; rfl,rfl⟩
   . exact main (.inr h48)
theorem Y4k (w:World) (s:ByteArray) (hs:s.size <= 5000) :
    Calls Tryz.prog 153 #[.string s] w fun e w'=>∃ n,e = .returned (.tuple #[.int .i64 n,.bool (okR s)]) /\ (okR s = true -> n = X5j s) /\ Ext w w':=by
 have HNO:Hid (Q8b s.data.toList = false -> okR s = false):=Lib.hid fun h=>h;go_enter Tryz.func153,Tryz.ntmps153;go_wp2
 go_loopw [4] (fun a w'=>∃ (pos:Nat) (n:Int),w' = w.iter s pos /\ a = .int .i64 n /\ Z5m s n pos /\ pos <= s.size /\ (pos = 0 ∨ s.size <= 9)) (fun _ w'=>s.size - w'.iterPos w.heap.size)
 case atStart=>exact ⟨0,0,rfl,rfl,Y0r s,Nat.zero_le _,.inl rfl⟩
 case round =>
  obtain ⟨pos,n,rfl,rfl,hr,hps,h9⟩:=hrel;have HR:=Lib.hid hr;clear hr
  by_cases hp:pos < s.size
  . obtain ⟨r,d,hd,hd1,hn1,hn2⟩:=Y8y s pos hp
    have hnx:∀ ty,(Instr.next (.pointer (some ⟨w.heap.size,0,none⟩)) true ty).run Tryz.prog (w.iter s pos) = .ok (.tuple #[.bool true,.int .i64 pos,.int .i32 r]) (w.iter s (pos + d)):=fun ty=>by
     rw [run_next_any w s pos ty hp,hd]
    obtain ⟨N,hN⟩:∃ N:Int,(r:Int) = N:=⟨_,rfl⟩;rw [hN] at hnx
    by_cases hdg:48 <= r /\ r <= 57
    . have e1:=hn1 (by omega)
      have f1:¬ N < 48:=by omega
      have f2:¬ 57 < N:=by omega
      by_cases hlong:9 < s.size
      . have hl:(9:Int) < (s.size:Int):=by omega
        have HX:=Lib.hid (HNO.out (X7a hlong));clear hd hd1 hn1 hn2 hN hdg e1 hlong h9;go_wp2;go_ret2;exact ⟨0,by rw [HX.out]; rfl,fun h=>(by rw [HX.out] at h; cases h),Ext.box _ _⟩
      . have hl:¬ (9:Int) < (s.size:Int):=by omega
        have HN:=Lib.hid (Y5u HR.out hp (by omega))
        rw [<- e1.1,hN] at HN;have hnb:=Z5l HR.out (by omega)
        have HD:=Lib.hid e1.2;have w1:IntKind.i64.wrap (10 * n) = 10 * n:=Q3v _ (by omega) (by omega)
        have w2:IntKind.i32.wrap (N - 48) = N - 48:=by rw [IntKind.wrap_i32]; omega
        have w3:IntKind.i64.wrap (N - 48) = N - 48:=Q3v _ (by omega) (by omega)
        have w4:IntKind.i64.wrap (10 * n + (N - 48)) = 10 * n + (N - 48):=Q3v _ (by omega) (by omega)
        clear hd hn1 hn2 hN hdg e1 h9;go_wp2;go_roundw
        case rel=>exact ⟨pos + d,_,rfl,rfl,by rw [HD.out]; exact HN.out,by have:=HD.out; omega,.inr (by omega)⟩
        case measure=>simp; omega
    . have HX:=Lib.hid (HNO.out (Z5n HR.out hp (fun h=>by
       by_cases h128:r < 128
       . have:=(hn1 h128).1; omega
       . have:=hn2 (by omega); omega)))
      clear hd hd1 hn1 hn2 h9
      by_cases h48:N < 48
      . clear hN hdg
        go_wp2;go_ret2;exact ⟨0,by rw [HX.out]; rfl,fun h=>(by rw [HX.out] at h; cases h),Ext.box _ _⟩
      . have f2:57 < N:=by omega
        clear hN hdg;go_wp2;go_ret2;exact ⟨0,by rw [HX.out]; rfl,fun h=>(by rw [HX.out] at h; cases h),Ext.box _ _⟩
  . have hnx:∀ ty,(Instr.next (.pointer (some ⟨w.heap.size,0,none⟩)) true ty).run Tryz.prog (w.iter s pos) = _:=fun ty=>run_next_end w s pos ty hp
    have he:=Y8v HR.out hp
    by_cases hz:s.size = 0
    . have HX:=Lib.hid (HNO.out (X4p hz))
      have hl0:s.toList = []:=by
       rw [toList_nil_iff_emptyBytes]
       apply ByteArray.ext
       exact Array.eq_empty_of_size_eq_zero hz
      have HE:Hid (s.toList.isEmpty = true):=Lib.hid (by rw [hl0]; rfl)
      clear he hz h9 hps hp;go_wp2
      go_quiet (fail)
      go_wp2;go_ret2;exact ⟨_,by rw [HX.out]; first | rfl | (rw [HE.out]; rfl),fun h=>(by rw [HX.out] at h; cases h),(Ext.box w _).drewN _⟩
    . have hp0:0 < s.size:=by omega
      have h9s:s.size <= 9:=by rcases h9 with h9 | h9 <;> omega
      have hl1:¬ s.toList = []:=fun e=>hz (by rw [toList_nil_iff_emptyBytes] at e; rw [e]; rfl)
      have HV:=Lib.hid he;have HE:Hid (s.toList.isEmpty = false):=Lib.hid (by rw [List.isEmpty_eq_false_iff]; exact hl1)
      by_cases h1:s.size = 1
      . have h1':((s.size:Int) == 1) = true:=by rw [beq_iff_eq]; omega
        have HX:Hid (okR s = true /\ X5j s = n):=by
         exact (by
          have e:Q8b s.data.toList = true:=by rw [X2j hp0 h9s (.inl h1)]; exact HV.out.1
          exact ⟨e,by unfold X5j; rw [if_pos e]; exact HV.out.2⟩:okR s = true /\ X5j s = n)
        clear he hz h9 hps hp h9s h1;go_wp2
        go_quiet (fail)
        go_wp2;go_ret2;exact ⟨_,by rw [HX.out.1]; first | rfl | (rw [HE.out]; rfl),fun _=>HX.out.2.symm,(Ext.box w _).drewN _⟩
      . have h1':((s.size:Int) == 1) = false:=by rw [beq_eq_false_iff_ne]; omega
        by_cases h48:s[0]'hp0 = 48
        . have HX:=Lib.hid (HNO.out (X7f (by omega) h48))
          have hb:(((s[0]'hp0).toNat:Int) != 48) = false:=by rw [h48]; rfl
          clear he hz h9 hps hp h9s h1 h48;go_wp2
          go_quiet (fail)
          go_wp2;go_ret2;exact ⟨_,by rw [HX.out]; first | rfl | (rw [HE.out]; rfl),fun h=>(by rw [HX.out] at h; cases h),(Ext.box w _).drewN _⟩
        . have hb:(((s[0]'hp0).toNat:Int) != 48) = true:=by
           rw [bne_iff_ne];exact fun e=>h48 (UInt8.toNat_inj.1 (by show _ = 48; omega))
          have HX:Hid (okR s = true /\ X5j s = n):=by
           exact (by
            have e:Q8b s.data.toList = true:=by rw [X2j hp0 h9s (.inr h48)]; exact HV.out.1
            exact ⟨e,by unfold X5j; rw [if_pos e]; exact HV.out.2⟩:okR s = true /\ X5j s = n)
          clear he hz h9 hps hp h9s h1 h48;go_wp2
          go_quiet (fail)
          go_wp2;go_ret2;exact ⟨_,by rw [HX.out.1]; first | rfl | (rw [HE.out]; rfl),fun _=>HX.out.2.symm,(Ext.box w _).drewN _⟩
end Go.Proofs
