/- What the functions of chapter 7 come to, in plain lists and numbers: no program is in sight here. The contract of the reference's States and Fails. Contracts: Fails, the other events, sets without an element, cut sets and path sets, minimal ones. A list of lists that a call makes and appends to. Contracts: the reference's Cuts, Paths, Single, CheckSet, CheckSets, contains, CheckCuts. Setting one event's chance: the weight with it sure is not less than with it out; the share of an event. Plain lists and sums. Minimal sets of a monotone property: each set that has it contains a minimal one, no minimal one contains another one; what this says about the cuts and paths of a tree. Plain law for FaultMonotone. How many sets can stand beside each other without one in another (at most seven events: 35); what all events, and none, do to a valid tree. Plain law for FaultMonotone. The cuts and paths of a tree prove each other complete; with one of them left out they do not. Plain law for FaultMonotone. Single events are the cuts of one event. Plain law for FaultMonotone. The program's check of proofs is the reference's: plain lists and bits. What FaultMonotone looks at in the minimal sets of a valid tree of at most seven events. Plain law. Contracts of the law's own functions: within, valid. Contracts: the reference's CheckCuts and ShortSets; the law's own function lists. Lists of lists: parts of them, copies of them that are the call's own, one appended to another. Contracts that the walks through the laws on minimal sets have in common. The law FaultMonotone: the call returns true. The law FaultMonotone: for every input the call returns true, and each argument reads afterwards as before: the row's statement, and its tied card. The listed tables of math/bits and strconv are as the program's text lays them. -/
import Derived.Test.YtmaejccjimkbiaaGreatDoorBc46
set_option linter.unusedVariables false
set_option linter.unusedSimpArgs false
set_option linter.constructorNameAsVariable false
namespace Go.Tw
namespace Tree
end Tree
namespace Tree
end Tree
namespace Tree
end Tree
namespace Tree
end Tree
namespace Tree
end Tree
def containsB (l:List Int) (some:List (List Int)):Bool:=some.any fun p=>p.all fun x=>has l x
namespace Tree
def proofErr (t:Tree) (a b:List (List Int)):Int :=
 if a.any (fun l=>!t.setB l false) then 22 else if b.any (fun l=>!t.setB l true) then 22 else
 if (List.range (2 ^ t.size)).any (fun s=>!containsB (bitsOf s) a && !containsB (others t.size (bitsOf s)) b) then 22 else 0
end Tree
namespace Tree
end Tree
end Go.Tw
namespace Go.Proofs
open Go.RowKit Go.Tw Go.Flow
theorem gatesB_len (t:Tree) (ev:Nat → Bool) (n:Nat):(t.gatesB ev n).length = t.basics.length + n:=by
 induction n with
 | zero=>simp [Tree.gatesB,Tree.basicsB]
 | succ n ih=>rw [Tree.gatesB,List.length_append,ih]; rfl
end Go.Proofs
namespace Go.Proofs
open Go.RowKit Go.Tw Go.Flow
def othersTo (n:Nat) (l:List Int):List Int:=((List.range n).map Int.ofNat).filter fun x=>!has l x
theorem othersTo_succ (n:Nat) (l:List Int):othersTo (n + 1) l = othersTo n l ++ if has l (n:Int) then [] else [(n:Int)]:=by
 unfold othersTo
 rw [List.range_succ,List.map_append,List.filter_append]
 cases h:has l (n:Int) <;> simp [h]
theorem othersTo_len (n:Nat) (l:List Int):(othersTo n l).length ≤ n:=by
 unfold othersTo; exact Nat.le_trans (List.length_filter_le _ _) (by simp)
set_option maxRecDepth 100000 in
set_option maxHeartbeats 400000 in
theorem Others_any (w:World) (v u:Value) (t:Tree) (l:List Int) (hn:t.size ≤ 100000) (ht:IsTree w v t) (hl:IsInts w u l) :
    Calls Tryz.prog 24 #[v,u] w fun e w'=>∃ x,e = .returned x ∧ IsInts w' x (others t.size l) ∧ Ext w w':=by
 obtain ⟨i0,hi,hz0,hz1,hz2⟩:=info_parts Tryz.info3
 obtain ⟨a,b,c,rfl,h3⟩:=ht
 have hw:=Ext.box w (.cells #[a,b,c] 26)
 have c0:=cell_new w #[a,b,c] 26 0
 have c1:=cell_new w #[a,b,c] 26 1
 have c2:=cell_new w #[a,b,c] 26 2
 have HT:=Lib.hid (h3.ext hw)
 have HL:=Lib.hid (hl.ext hw)
 clear h3 hl
 go_enter Tryz.func24,Tryz.ntmps24
 go_wp2
 obtain ⟨W,hW⟩:∃ W,w.alloc (.cells #[a,b,c] 26) = W:=⟨_,rfl⟩
 have hsz:W.heap.size = w.heap.size + 1:=by rw [← hW]; simp
 rw [hW] at c0 c1 c2 hw HT HL ⊢
 simp only [List.getElem?_toArray,List.getElem?_cons_zero,List.getElem?_cons_succ] at c0 c1 c2
 clear hW
 go_loopw [5,6] (fun o i wr=>∃ (k:Nat),k ≤ t.size ∧ i = .int .i64 k ∧ Own1 wr W.heap.size 3 (.int .i64) o (othersTo k l) ∧ Ext W wr) (fun _ i _=>t.size - (intOf i).toNat)
 case atStart=>exact ⟨0,Nat.zero_le _,rfl,Own1.nil _ _ _ _,Ext.refl _⟩
 case round =>
  obtain ⟨k,hk,rfl,hown,hx⟩:=hrel
  have d0:=hx.cell c0
  have d1:=hx.cell c1
  have d2:=hx.cell c2
  clear c0 c1 c2
  have hle:=othersTo_len k l
  go_wp2_with fail
  refine (Size_any _ _ t ⟨_,_,_,rfl,HT.out.ext hx⟩).mono ?_
  rintro e w1 ⟨rfl,hx1⟩
  replace hown:=hown.below hx1
  have hx':=hx.trans hx1
  clear hx d0 d1 d2 hx1
  by_cases hlt:k < t.size
  · cases hh:has l (k:Int) with
    | true =>
      go_wp2_with (go_at_call 19; refine (HasInt_any _ _ l _ (HL.out.ext hx')).mono ?_; rintro e w' ⟨rfl,rfl⟩)
      go_roundw
      case rel=>exact ⟨k + 1,by omega,by go_num,by rw [othersTo_succ,hh]; simpa using hown,hx'⟩
      case measure=>simp [intOf]; omega
    | false =>
      go_wp2_with (first | (go_at_call 19; refine (HasInt_any _ _ l _ (HL.out.ext hx')).mono ?_; rintro e w' ⟨rfl,rfl⟩) | (at_builtin; refine wpList_append_own _ rfl _ _ 39 rfl (W.heap.size) 3 i0 (.int .i64 0) 1 8 Tryz.underlying39 hi hz0 hz1 hz2 rfl (by decide) _ _ _ rfl (World.ownsRow.alloc hown _) ⟨w1.heap.size,0,none⟩ 1 1 [.int .i64 k] rfl rfl ?_ ?_ ?_ ?_ ?_ ?_; exact one_new _ _ _; (focus (simp [Value.oneCell'])); (focus (unfold maxLen; omega)); (focus omega); (focus (have:=hx'.size; simp at this ⊢; omega)); intro v' w1 hown' hgrow _))
      have hx2:=ext_grown hx' hown (Nat.le_refl _) hgrow
      go_roundw
      case rel=>exact ⟨k + 1,by omega,by go_num,by rw [othersTo_succ,hh]; exact Own1.snoc hown',hx2⟩
      case measure=>simp [intOf]; omega
  · go_wp2
    go_ret
    exact ⟨_,rfl,by rw [show others t.size l = othersTo k l from by rw [show k = t.size from by omega]; rfl]; exact hown.ints (by omega),hw.trans hx'⟩
end Go.Proofs
namespace Go.Tw
open Go.RowKit Go.Flow
theorem below_ext {w w1 w2:World} (hx:Ext w.drew w1) (hb:Below w.heap.size w1 w2):Ext w w2:=Below.trans (((Ext.refl w).drew).trans hx) hb
end Go.Tw
namespace Go.Proofs
open Go.RowKit Go.Tw Go.Flow
set_option maxHeartbeats 400000 in
theorem CheckSet_any (w:World) (v u:Value) (t:Tree) (l:List Int) (ht:IsTree w v t) (hl:IsInts w u l) :
    Calls Tryz.prog 17 #[v,u] w fun e w'=>e = .returned (.int .i64 (setErr l t.size)) ∧ Ext w w':=by
 obtain ⟨a,b,c,rfl,h3⟩:=ht
 have hw:=Ext.box w (.cells #[a,b,c] 26)
 have HT:=Lib.hid (h3.ext hw)
 have HL:=Lib.hid (hl.ext hw)
 clear h3 hl
 go_enter Tryz.func17,Tryz.ntmps17
 go_wp2_with fail
 refine (Size_any _ _ t ⟨_,_,_,rfl,HT.out⟩).mono ?_
 rintro e w1 ⟨rfl,hx⟩
 go_wp2_with fail
 refine (checkSet_any _ _ l _ (HL.out.ext hx)).mono ?_
 rintro e w2 ⟨rfl,hx2⟩
 go_wp2
 go_ret
 exact ⟨rfl,(hw.trans hx).trans hx2⟩
end Go.Proofs
namespace Go.Proofs
open Go.Tw
theorem le_basicB {t:Tree} {a b:Nat → Bool} (h:∀ i,a i = true → b i = true) (i:Nat) (hi:t.basicB a i = true):t.basicB b i = true:=by
 unfold Tree.basicB at hi ⊢
 rw [Bool.or_eq_true] at hi ⊢
 rcases hi with hi | hi
 · exact .inl (h _ hi)
 · refine .inr ?_
   rw [List.any_eq_true] at hi ⊢
   obtain ⟨k,hk,hh⟩:=hi
   refine ⟨k,hk,?_⟩
   rw [Bool.and_eq_true] at hh ⊢
   exact ⟨h _ hh.1,hh.2⟩
theorem bx_over {l:List Bool} {i:Nat} (h:l.length ≤ i):bx l i = false:=by
 unfold bx
 simp [List.getElem?_eq_none h]
theorem bx_in {l:List Bool} {i:Nat} (h:i < l.length):bx l i = l[i]:=by
 unfold bx
 simp [List.getElem?_eq_getElem h]
theorem le_gatesB {t:Tree} {a b:Nat → Bool} (h:∀ i,a i = true → b i = true):∀ n,LeB (t.gatesB a n) (t.gatesB b n)
 | 0=>by
   unfold Tree.gatesB Tree.basicsB
   refine ⟨by simp,fun i hi=>?_⟩
   rcases Nat.lt_or_ge i t.basics.length with hlt | hge
   · rw [bx_in (by simpa using hlt)] at hi ⊢
     simp only [List.getElem_map,List.getElem_range] at hi ⊢
     exact le_basicB h i hi
   · rw [bx_over (by simpa using hge)] at hi; cases hi
 | n + 1=>by
   have ih:=le_gatesB (t:=t) h n
   unfold Tree.gatesB
   refine ⟨by simp [ih.1],fun i hi=>?_⟩
   rcases Nat.lt_or_ge i (t.gatesB a n).length with hlt | hge
   · have e:=ih.2 i
     rw [bx_in hlt,bx_in (by rw [← ih.1]; exact hlt)] at e
     rw [bx_in (by simp; omega),List.getElem_append_left hlt] at hi
     rw [bx_in (by simp; rw [← ih.1]; omega),List.getElem_append_left (by rw [← ih.1]; exact hlt)]
     exact e hi
   · rcases Nat.lt_or_ge i ((t.gatesB a n).length + 1) with h2 | h2
     · obtain rfl:i = (t.gatesB a n).length:=by omega
       rw [bx_in (by simp),List.getElem_append_right (Nat.le_refl _)] at hi
       rw [bx_in (by simp [ih.1]),List.getElem_append_right (by rw [ih.1]; exact Nat.le_refl _)]
       simp only [List.getElem_singleton] at hi ⊢
       unfold gateB at hi ⊢
       have:=ih.failing (gInputs t.gates n)
       simp only [decide_eq_true_eq] at hi ⊢
       omega
     · rw [bx_over (by simp; omega)] at hi; cases hi
theorem fails_le {t:Tree} {a b:Nat → Bool} (h:∀ i,a i = true → b i = true) (hf:t.fails a = true):t.fails b = true :=
 (le_gatesB h t.gates.length).2 _ hf
end Go.Proofs
namespace Go.Proofs
open Go.Tw
def Mono (q:Nat → Bool):Prop:=∀ a b,SubB a b → q a = true → q b = true
theorem bit_lt {n s i:Nat} (hs:s < 2 ^ n) (h:s.testBit i = true):i < n:=by
 apply Nat.lt_of_not_le
 intro hge
 rw [Nat.testBit_lt_two_pow (Nat.lt_of_lt_of_le hs (Nat.pow_le_pow_right (by omega) hge))] at h
 cases h
theorem minB_iff {q:Nat → Bool} {n x:Nat}:minB q n x = true ↔ q x = true ∧ ∀ i,i < n → x.testBit i = true → q (clearB x (2 ^ i)) = false:=by
 unfold minB
 rw [Bool.and_eq_true,List.all_eq_true]
 refine and_congr_right fun _=>⟨fun h i hi hb=>?_,fun h i hi=>?_⟩
 · have:=h i (List.mem_range.2 hi)
   rw [hb,Bool.true_and] at this
   simpa using this
 · have hi:=List.mem_range.1 hi
   cases hb:x.testBit i with
   | false=>rfl
   | true=>rw [h i hi hb]; rfl
theorem min_below {q:Nat → Bool} {n:Nat}:∀ (s:Nat),s < 2 ^ n → q s = true → ∃ m,m < 2 ^ n ∧ SubB m s ∧ minB q n m = true:=by
 intro s
 induction s using Nat.strongRecOn with
 | ind s ih =>
   intro hs hq
   by_cases h:∃ i,i < n ∧ s.testBit i = true ∧ q (clearB s (2 ^ i)) = true
   · obtain ⟨i,_,hb,hc⟩:=h
     obtain ⟨m,h1,h2,h3⟩:=ih _ (clearB_low hb) (clearB_lt _ hs) hc
     exact ⟨m,h1,h2.trans (SubB.clear _ _),h3⟩
   · refine ⟨s,hs,SubB.refl s,minB_iff.2 ⟨hq,fun i hi hb=>?_⟩⟩
     cases hc:q (clearB s (2 ^ i)) with
     | false=>rfl
     | true=>exact absurd ⟨i,hi,hb,hc⟩ h
theorem min_only {q:Nat → Bool} (hm:Mono q) {n a b:Nat} (hb:b < 2 ^ n) (ha:q a = true) (hmin:minB q n b = true) (h:SubB a b):a = b:=by
 apply Nat.eq_of_testBit_eq
 intro i
 cases hi:a.testBit i with
 | true=>exact (h i hi).symm
 | false =>
   cases hbi:b.testBit i with
   | false=>rfl
   | true =>
     have hin:=bit_lt hb hbi
     have:=(minB_iff.1 hmin).2 i hin hbi
     have h2:SubB a (clearB b (2 ^ i)):=fun j hj=>by
      rw [clearB_bit,Nat.testBit_two_pow,h j hj,Bool.true_and]
      by_cases e:i = j
      · subst e; rw [hi] at hj; cases hj
      · simp [e]
     rw [hm _ _ h2 ha] at this
     cases this
theorem min_iff {q:Nat → Bool} (hm:Mono q) {n s:Nat} (hs:s < 2 ^ n):q s = true ↔ ∃ m,m < 2 ^ n ∧ minB q n m = true ∧ SubB m s:=by
 constructor
 · intro h
   obtain ⟨m,h1,h2,h3⟩:=min_below s hs h
   exact ⟨m,h1,h3,h2⟩
 · rintro ⟨m,_,h2,h3⟩
   exact hm _ _ h3 (minB_iff.1 h2).1
def cutQ (t:Tree) (s:Nat):Bool:=t.fails (evN s)
def pathQ (t:Tree) (s:Nat):Bool:=!t.fails (evN (othersN t s))
theorem cutQ_mono (t:Tree):Mono (cutQ t):=fun a b h ha=>fails_le (fun i hi=>h i hi) ha
theorem othersN_bit (t:Tree) (s i:Nat):(othersN t s).testBit i = (decide (i < t.size) && !s.testBit i):=by
 unfold othersN
 rw [clearB_bit,Nat.testBit_two_pow_sub_one]
theorem pathQ_mono (t:Tree):Mono (pathQ t):=fun a b h ha=>by
 unfold pathQ at ha ⊢
 cases hb:t.fails (evN (othersN t b)) with
 | false=>rfl
 | true =>
   have:t.fails (evN (othersN t a)) = true:=fails_le (fun i hi=>by
    unfold evN at hi ⊢
    rw [othersN_bit,Bool.and_eq_true] at hi ⊢
    refine ⟨hi.1,?_⟩
    cases ha':a.testBit i with
    | false=>rfl
    | true=>rw [h i ha'] at hi; exact absurd hi.2 (by decide)) hb
   rw [this] at ha
   cases ha
theorem cutQ_eq {t:Tree} (hs:t.size ≤ 12) {s:Nat} (h:s < 2 ^ t.size):cutQ t s = t.setB (bitsOf s) false:=cutB_eq hs h
theorem pathQ_eq {t:Tree} (hs:t.size ≤ 12) {s:Nat} (h:s < 2 ^ t.size):pathQ t s = t.setB (bitsOf s) true:=pathB_eq hs h
theorem mem_sets {t:Tree} (hs:t.size ≤ 12) {p:Bool} {q:Nat → Bool} (hq:∀ s,s < 2 ^ t.size → q s = t.setB (bitsOf s) p) (l:List Int):l ∈ t.sets p ↔ ∃ s,s < 2 ^ t.size ∧ minB q t.size s = true ∧ l = bitsOf s:=by
 have e:t.sets p = setsTo t p (2 ^ t.size):=rfl
 rw [e,(setsTo_perm t p _).mem_iff,List.mem_map]
 constructor
 · rintro ⟨s,h,rfl⟩
   obtain ⟨h1,h2⟩:=List.mem_filter.1 h
   have h1:=List.mem_range.1 h1
   exact ⟨s,h1,by rw [minB_eq hs h1 hq]; exact h2,rfl⟩
 · rintro ⟨s,h1,h2,rfl⟩
   refine ⟨s,List.mem_filter.2 ⟨List.mem_range.2 h1,?_⟩,rfl⟩
   show t.minimalB (bitsOf s) p = true
   rw [← minB_eq hs h1 hq]
   exact h2
theorem cut_path_share {t:Tree} {a b:Nat} (ha:a < 2 ^ t.size) (hc:cutQ t a = true) (hp:pathQ t b = true):∃ i,a.testBit i = true ∧ b.testBit i = true:=by
 by_cases h:∃ i,a.testBit i = true ∧ b.testBit i = true
 · exact h
 · exfalso
   have h1:SubB a (othersN t b):=fun i hi=>by
    rw [othersN_bit,decide_eq_true (bit_lt ha hi),Bool.true_and]
    cases hb:b.testBit i with
    | false=>rfl
    | true=>exact absurd ⟨i,hi,hb⟩ h
   have h2:=cutQ_mono t _ _ h1 hc
   unfold pathQ at hp
   unfold cutQ at h2
   rw [h2] at hp
   cases hp
end Go.Proofs
namespace Go.Proofs
open Go.Tw
def chainTab:List Nat:=[0,0,1,0,2,2,1,0,3,3,4,3,5,2,1,0,6,6,7,6,8,8,7,6,9,9,4,3,5,2,1,0,10,10,11,10,12,12,11,10,13,13,14,13,15,12,11,10,16,16,17,16,18,8,7,6,19,9,4,3,5,2,1,0,20,20,21,20,22,22,21,20,23,23,24,23,25,22,21,20,26,26,27,26,28,28,27,26,29,29,24,23,25,22,21,20,30,30,31,30,32,32,31,30,33,33,14,13,15,12,11,10,34,34,17,16,18,8,7,6,19,9,4,3,5,2,1,0]
def chainOf (s:Nat):Nat:=chainTab.getD s 0
theorem chain_lt:∀ s,s < 128 → chainOf s < 35:=by
 have h:((List.range 128).all fun s=>decide (chainOf s < 35)) = true:=by decide +kernel
 intro s hs
 simpa using List.all_eq_true.1 h s (List.mem_range.2 hs)
theorem chain_sub:∀ a,a < 128 → ∀ b,b < 128 → chainOf a = chainOf b → a &&& b = a ∨ a &&& b = b:=by
 have h:((List.range 128).all fun a=>(List.range 128).all fun b=>!(chainOf a == chainOf b) || (a &&& b == a || a &&& b == b)) = true:=by decide +kernel
 intro a ha b hb he
 have h2:=List.all_eq_true.1 (List.all_eq_true.1 h a (List.mem_range.2 ha)) b (List.mem_range.2 hb)
 rw [he] at h2
 simpa using h2
theorem SubB.of_and {a b:Nat} (h:a &&& b = a):SubB a b:=fun i hi=>by
 rw [← h,Nat.testBit_and,Bool.and_eq_true] at hi
 exact hi.2
theorem nodup_bound:∀ (n:Nat) (l:List Nat),l.Nodup → (∀ x ∈ l,x < n) → l.length ≤ n
 | 0,l,_,h=>by
   cases l with
   | nil=>exact Nat.le_refl _
   | cons x l=>exact absurd (h x (List.mem_cons_self ..)) (by omega)
 | n + 1,l,hn,h=>by
   have h2:=nodup_bound n (l.erase n) (hn.erase n) (fun x hx=>by
    have h3:=(hn.mem_erase_iff).1 hx
    have:=h x h3.2
    omega)
   by_cases hm:n ∈ l
   · rw [List.length_erase_of_mem hm] at h2; omega
   · rw [List.erase_of_not_mem hm] at h2; omega
theorem nodup_map {α β:Type} {f:α → β}:∀ {l:List α},l.Nodup → (∀ a ∈ l,∀ b ∈ l,f a = f b → a = b) → (l.map f).Nodup
 | [],_,_=>List.nodup_nil
 | x :: l,hn,h=>by
   rw [List.nodup_cons] at hn
   rw [List.map_cons,List.nodup_cons]
   refine ⟨fun hm=>?_,nodup_map hn.2 fun a ha b hb=>h a (List.mem_cons_of_mem _ ha) b (List.mem_cons_of_mem _ hb)⟩
   obtain ⟨y,hy,he⟩:=List.mem_map.1 hm
   have:=h x (List.mem_cons_self ..) y (List.mem_cons_of_mem _ hy) he.symm
   subst this
   exact hn.1 hy
theorem min_count {q:Nat → Bool} (hm:Mono q) {n:Nat} (hn:n ≤ 7):((List.range (2 ^ n)).filter fun s=>minB q n s).length ≤ 35:=by
 have h7:2 ^ n ≤ 128:=Nat.le_trans (Nat.pow_le_pow_right (n:=2) (by omega) hn) (by decide)
 rw [← List.length_map (f:=chainOf)]
 refine nodup_bound 35 _ (nodup_map (List.nodup_range.filter _) fun a ha b hb he=>?_) fun x hx=>?_
 · obtain ⟨a1,a2⟩:=List.mem_filter.1 ha
   obtain ⟨b1,b2⟩:=List.mem_filter.1 hb
   have a1:=List.mem_range.1 a1
   have b1:=List.mem_range.1 b1
   rcases chain_sub a (by omega) b (by omega) he with h | h
   · exact min_only hm b1 (minB_iff.1 a2).1 b2 (SubB.of_and h)
   · exact (min_only hm a1 (minB_iff.1 b2).1 a2 (SubB.of_and (by rw [Nat.and_comm]; exact h))).symm
 · obtain ⟨s,hs,rfl⟩:=List.mem_map.1 hx
   exact chain_lt s (by have:=List.mem_range.1 (List.mem_filter.1 hs).1; omega)
theorem sets_count {t:Tree} (hs:t.size ≤ 7) {p:Bool} {q:Nat → Bool} (hm:Mono q) (hq:∀ s,s < 2 ^ t.size → q s = t.setB (bitsOf s) p):(t.sets p).length ≤ 35:=by
 have e:t.sets p = setsTo t p (2 ^ t.size):=rfl
 rw [e,(setsTo_perm t p _).length_eq,List.length_map]
 have e2:((List.range (2 ^ t.size)).filter fun s=>t.minimalB (bitsOf s) p) = (List.range (2 ^ t.size)).filter fun s=>minB q t.size s:=by
  apply List.filter_congr
  intro s h
  exact (minB_eq (by omega) (List.mem_range.1 h) hq).symm
 rw [e2]
 exact min_count hm hs
theorem ba_eq {a b:ByteArray} (h:(a == b) = true):a = b:=str_beq h
theorem need_range {t:Tree} (hv:Valid t) {k:Nat} (hk:k < t.gates.length):1 ≤ needOf (gKind t.gates k) (gNeed t.gates k) (gInputs t.gates k).length ∧ needOf (gKind t.gates k) (gNeed t.gates k) (gInputs t.gates k).length ≤ (gInputs t.gates k).length:=by
 have hl:1 ≤ (gInputs t.gates k).length:=by
  have:=(listErr_zero (hv.inputs hk)).1
  cases h:gInputs t.gates k with
  | nil=>exact absurd h this
  | cons x l=>simp
 have hkd:=hv.kind hk
 have hg:=hv.gate k hk
 unfold Tree.gateErrAt gateErr at hg
 rw [firstErr_zero] at hg
 have hnd:=hg (needErr (gKind t.gates k) (gNeed t.gates k) (gInputs t.gates k).length) (by simp)
 unfold needOf
 by_cases h1:gKind t.gates k = sAnd
 · rw [if_pos h1]; omega
 · rw [if_neg h1]
   by_cases h2:gKind t.gates k = sOr
   · rw [if_pos h2]; omega
   · rw [if_neg h2]
     have h3:gKind t.gates k = sVote:=by
      unfold kindB at hkd
      simp only [Bool.or_eq_true] at hkd
      rcases hkd with (h | h) | h
      · exact absurd (ba_eq h) h1
      · exact absurd (ba_eq h) h2
      · exact ba_eq h
     unfold needErr at hnd
     rw [if_pos h3] at hnd
     unfold rangeErr at hnd
     split at hnd
     · cases hnd
     · omega
theorem gates_const {t:Tree} (hv:Valid t) {ev:Nat → Bool} {b:Bool} (h:∀ i,i < t.basics.length → t.basicB ev i = b):∀ n,n ≤ t.gates.length → ∀ i,i < t.basics.length + n → bx (t.gatesB ev n) i = b
 | 0,_,i,hi=>by
   rw [bx_in (by rw [gatesB_len]; exact hi)]
   simp only [Tree.gatesB,Tree.basicsB,List.getElem_map,List.getElem_range]
   exact h i (by omega)
 | n + 1,hn,i,hi=>by
   have ih:=gates_const hv h n (by omega)
   have hl:=gatesB_len t ev n
   rw [bx_in (by rw [gatesB_len]; omega)]
   simp only [Tree.gatesB]
   rcases Nat.lt_or_ge i (t.gatesB ev n).length with hlt | hge
   · rw [List.getElem_append_left hlt,← bx_in hlt]
     exact ih i (by omega)
   · rw [List.getElem_append_right hge]
     simp only [List.getElem_singleton]
     have hin:=(setErr_zero (listErr_zero (hv.inputs (show n < t.gates.length by omega))).2).1
     have hr:=need_range hv (show n < t.gates.length by omega)
     have hall:∀ x ∈ gInputs t.gates n,bx (t.gatesB ev n) x.toNat = b:=fun x hx=>ih _ (by have:=hin x hx; omega)
     unfold gateB
     have hf:failing (t.gatesB ev n) (gInputs t.gates n) = if b then (gInputs t.gates n).length else 0:=by
      unfold failing
      cases b with
      | true=>exact List.countP_eq_length.2 hall
      | false=>exact List.countP_eq_zero.2 fun x hx=>by rw [hall x hx]; decide
     rw [hf]
     cases b with
     | true=>simp only [if_true,decide_eq_true_eq]; exact hr.2
     | false=>simp only [Bool.false_eq_true,if_false,decide_eq_false_iff_not]; omega
theorem fails_const {t:Tree} (hv:Valid t) {ev:Nat → Bool} {b:Bool} (h:∀ i,i < t.basics.length → t.basicB ev i = b):t.fails ev = b:=by
 have:=hv.nb
 have:=hv.ng
 exact gates_const hv h t.gates.length (Nat.le_refl _) _ (by unfold Tree.nodes; omega)
theorem fails_all {t:Tree} (hv:Valid t):cutQ t (2 ^ t.size - 1) = true :=
 fails_const hv fun i hi=>by
  unfold Tree.basicB evN
  rw [Nat.testBit_two_pow_sub_one,decide_eq_true (show i < t.size by unfold Tree.size; omega),Bool.true_or]
theorem fails_none {t:Tree} (hv:Valid t):cutQ t 0 = false :=
 fails_const hv fun i hi=>by
  unfold Tree.basicB evN
  simp
theorem othersN_full (t:Tree):othersN t (2 ^ t.size - 1) = 0:=by
 apply Nat.eq_of_testBit_eq
 intro i
 rw [othersN_bit,Nat.testBit_two_pow_sub_one]
 cases decide (i < t.size) <;> simp
theorem path_all {t:Tree} (hv:Valid t):pathQ t (2 ^ t.size - 1) = true:=by
 have:=fails_none hv
 unfold cutQ at this
 unfold pathQ
 rw [othersN_full,this]
 rfl
theorem cuts_some {t:Tree} (hv:Valid t):t.sets false ≠ []:=by
 obtain ⟨m,h1,_,h3⟩:=min_below (n:=t.size) _ (by have:=Nat.two_pow_pos t.size; omega) (fails_all hv)
 have:=(mem_sets hv.size (fun s hs=>cutQ_eq hv.size hs) (bitsOf m)).2 ⟨m,h1,h3,rfl⟩
 intro e
 rw [e] at this
 cases this
theorem paths_some {t:Tree} (hv:Valid t):t.sets true ≠ []:=by
 obtain ⟨m,h1,_,h3⟩:=min_below (n:=t.size) _ (by have:=Nat.two_pow_pos t.size; omega) (path_all hv)
 have:=(mem_sets hv.size (fun s hs=>pathQ_eq hv.size hs) (bitsOf m)).2 ⟨m,h1,h3,rfl⟩
 intro e
 rw [e] at this
 cases this
end Go.Proofs
namespace Go.Proofs
open Go.Tw
theorem mem_bitsOf {s:Nat} {x:Int}:x ∈ bitsOf s ↔ ∃ i:Nat,i < 16 ∧ s.testBit i = true ∧ x = (i:Int):=by
 unfold bitsOf
 simp only [List.mem_map,List.mem_filter,List.mem_range]
 constructor
 · rintro ⟨i,⟨h1,h2⟩,rfl⟩; exact ⟨i,h1,h2,rfl⟩
 · rintro ⟨i,h1,h2,rfl⟩; exact ⟨i,⟨h1,h2⟩,rfl⟩
theorem has_bitsOf {s:Nat} (hs:s < 65536) (i:Nat):has (bitsOf s) (i:Int) = s.testBit i:=congrFun (evL_bits hs) i
theorem all_bits {s m:Nat} (hs:s < 65536) (hm:m < 65536):((bitsOf m).all fun x=>has (bitsOf s) x) = true ↔ SubB m s:=by
 rw [List.all_eq_true]
 constructor
 · intro h i hi
   rw [← has_bitsOf hs]
   exact h i (mem_bitsOf.2 ⟨i,bit_lt (n:=16) hm hi,hi,rfl⟩)
 · intro h x hx
   obtain ⟨i,_,hi,rfl⟩:=mem_bitsOf.1 hx
   rw [has_bitsOf hs]
   exact h i hi
theorem bitsOf_inj {a b:Nat} (ha:a < 65536) (hb:b < 65536) (h:bitsOf a = bitsOf b):a = b:=by
 apply Nat.eq_of_testBit_eq
 intro i
 rw [← has_bitsOf ha,← has_bitsOf hb,h]
theorem small_of {n s:Nat} (hn:n ≤ 12) (h:s < 2 ^ n):s < 65536:=Nat.lt_of_lt_of_le h (Nat.le_trans (Nat.pow_le_pow_right (n:=2) (by omega) hn) (by decide))
theorem sets_nodup {t:Tree} (hs:t.size ≤ 12) (p:Bool):(t.sets p).Nodup:=by
 have e:t.sets p = setsTo t p (2 ^ t.size):=rfl
 rw [e,(setsTo_perm t p _).nodup_iff]
 refine nodup_map (List.nodup_range.filter _) fun a ha b hb he=>?_
 exact bitsOf_inj (small_of hs (List.mem_range.1 (List.mem_filter.1 ha).1)) (small_of hs (List.mem_range.1 (List.mem_filter.1 hb).1)) he
theorem contains_sets {t:Tree} (hs:t.size ≤ 12) {p:Bool} {q:Nat → Bool} (hm:Mono q) (hq:∀ s,s < 2 ^ t.size → q s = t.setB (bitsOf s) p) {s:Nat} (h:s < 2 ^ t.size):containsB (bitsOf s) (t.sets p) = q s:=by
 rw [Bool.eq_iff_iff,min_iff hm h]
 unfold containsB
 rw [List.any_eq_true]
 constructor
 · rintro ⟨l,hl,hc⟩
   obtain ⟨m,h1,h2,rfl⟩:=(mem_sets hs hq l).1 hl
   exact ⟨m,h1,h2,(all_bits (small_of hs h) (small_of hs h1)).1 hc⟩
 · rintro ⟨m,h1,h2,h3⟩
   exact ⟨bitsOf m,(mem_sets hs hq _).2 ⟨m,h1,h2,rfl⟩,(all_bits (small_of hs h) (small_of hs h1)).2 h3⟩
theorem others_bits {t:Tree} (hs:t.size ≤ 12) {s:Nat} (h:s < 2 ^ t.size):∀ x:Int,has (others t.size (bitsOf s)) x = has (bitsOf (othersN t s)) x:=by
 intro x
 have ho:othersN t s < 65536:=small_of hs (othersN_lt t s)
 rw [Bool.eq_iff_iff]
 unfold has
 rw [List.contains_iff_mem,List.contains_iff_mem,mem_bitsOf]
 unfold others
 simp only [List.mem_filter,List.mem_map,List.mem_range]
 constructor
 · rintro ⟨⟨i,hi,rfl⟩,h2⟩
   have hb:has (bitsOf s) (Int.ofNat i) = s.testBit i:=has_bitsOf (small_of hs h) i
   rw [hb] at h2
   refine ⟨i,by omega,?_,rfl⟩
   rw [othersN_bit,decide_eq_true hi,Bool.true_and]
   exact h2
 · rintro ⟨i,_,h2,rfl⟩
   rw [othersN_bit,Bool.and_eq_true,decide_eq_true_eq] at h2
   refine ⟨⟨i,h2.1,rfl⟩,?_⟩
   have hb:has (bitsOf s) (i:Int) = s.testBit i:=has_bitsOf (small_of hs h) i
   rw [hb]
   exact h2.2
theorem contains_others {t:Tree} (hs:t.size ≤ 12) {s:Nat} (h:s < 2 ^ t.size) (B:List (List Int)):containsB (others t.size (bitsOf s)) B = containsB (bitsOf (othersN t s)) B:=by
 unfold containsB
 congr 1
 funext p
 congr 1
 funext x
 exact others_bits hs h x
theorem othersN_twice {t:Tree} {s:Nat} (h:s < 2 ^ t.size):othersN t (othersN t s) = s:=by
 apply Nat.eq_of_testBit_eq
 intro i
 rw [othersN_bit,othersN_bit]
 by_cases hi:i < t.size
 · rw [decide_eq_true hi]; simp
 · rw [decide_eq_false hi]
   cases hb:s.testBit i with
   | false=>rfl
   | true=>exact absurd (bit_lt h hb) hi
theorem path_others {t:Tree} {s:Nat} (h:s < 2 ^ t.size):pathQ t (othersN t s) = !cutQ t s:=by
 unfold pathQ cutQ
 rw [othersN_twice h]
theorem proof_whole {t:Tree} (hv:Valid t):t.proofErr (t.sets false) (t.sets true) = 0:=by
 have hs:=hv.size
 unfold Tree.proofErr
 rw [if_neg,if_neg,if_neg]
 · rw [Bool.not_eq_true,List.any_eq_false]
   intro s h
   have h:=List.mem_range.1 h
   rw [contains_sets hs (cutQ_mono t) (fun s hs'=>cutQ_eq hs hs') h,contains_others hs h,contains_sets hs (pathQ_mono t) (fun s hs'=>pathQ_eq hs hs') (othersN_lt t s),path_others h]
   cases cutQ t s <;> decide
 · rw [Bool.not_eq_true,List.any_eq_false]
   intro l hl
   obtain ⟨m,h1,h2,rfl⟩:=(mem_sets hs (fun s hs'=>pathQ_eq hs hs') l).1 hl
   rw [← pathQ_eq hs h1,(minB_iff.1 h2).1]
   decide
 · rw [Bool.not_eq_true,List.any_eq_false]
   intro l hl
   obtain ⟨m,h1,h2,rfl⟩:=(mem_sets hs (fun s hs'=>cutQ_eq hs hs') l).1 hl
   rw [← cutQ_eq hs h1,(minB_iff.1 h2).1]
   decide
def lessAt {α:Type} (l:List α) (k:Nat):List α:=l.take k ++ l.drop (k + 1)
theorem mem_lessAt {α:Type} {l:List α} (hn:l.Nodup) {k:Nat} (hk:k < l.length) {x:α} (h:x ∈ lessAt l k):x ∈ l ∧ x ≠ l[k]:=by
 unfold lessAt at h
 rw [List.mem_append] at h
 rcases h with h | h
 · refine ⟨List.mem_of_mem_take h,fun e=>?_⟩
   obtain ⟨i,hi,he⟩:=List.getElem_of_mem h
   rw [List.length_take] at hi
   rw [List.getElem_take] at he
   exact List.pairwise_iff_getElem.1 hn i k (by omega) hk (by omega) (by rw [he,e])
 · refine ⟨List.mem_of_mem_drop h,fun e=>?_⟩
   obtain ⟨i,hi,he⟩:=List.getElem_of_mem h
   rw [List.length_drop] at hi
   rw [List.getElem_drop] at he
   exact List.pairwise_iff_getElem.1 hn k (k + 1 + i) hk (by omega) (by omega) (by rw [he,e])
theorem contains_less {t:Tree} (hs:t.size ≤ 12) {p:Bool} {q:Nat → Bool} (hm:Mono q) (hq:∀ s,s < 2 ^ t.size → q s = t.setB (bitsOf s) p) {k:Nat} (hk:k < (t.sets p).length) :
    ∃ m,m < 2 ^ t.size ∧ q m = true ∧ (t.sets p)[k] = bitsOf m ∧ containsB (bitsOf m) (lessAt (t.sets p) k) = false:=by
 obtain ⟨m,h1,h2,h3⟩:=(mem_sets hs hq _).1 (List.getElem_mem hk)
 refine ⟨m,h1,(minB_iff.1 h2).1,h3,?_⟩
 unfold containsB
 rw [List.any_eq_false]
 intro l hl hc
 obtain ⟨h4,h5⟩:=mem_lessAt (sets_nodup hs p) hk hl
 obtain ⟨m',h6,h7,rfl⟩:=(mem_sets hs hq l).1 h4
 have h8:=(all_bits (small_of hs h1) (small_of hs h6)).1 hc
 have h9:=min_only hm h1 (minB_iff.1 h7).1 h2 h8
 rw [h9,h3] at h5
 exact h5 rfl
theorem proof_less {t:Tree} (hv:Valid t) {k:Nat} (hk:k < (t.sets false).length):t.proofErr (lessAt (t.sets false) k) (t.sets true) = 22:=by
 have hs:=hv.size
 obtain ⟨m,h1,h2,_,h4⟩:=contains_less hs (cutQ_mono t) (fun s hs'=>cutQ_eq hs hs') hk
 unfold Tree.proofErr
 split
 · rfl
 · split
   · rfl
   · rw [if_pos]
     rw [List.any_eq_true]
     refine ⟨m,List.mem_range.2 h1,?_⟩
     rw [h4,contains_others hs h1,contains_sets hs (pathQ_mono t) (fun s hs'=>pathQ_eq hs hs') (othersN_lt t m),path_others h1,h2]
     decide
theorem proof_fewer {t:Tree} (hv:Valid t) {k:Nat} (hk:k < (t.sets true).length):t.proofErr (t.sets false) (lessAt (t.sets true) k) = 22:=by
 have hs:=hv.size
 obtain ⟨m,h1,h2,_,h4⟩:=contains_less hs (pathQ_mono t) (fun s hs'=>pathQ_eq hs hs') hk
 unfold Tree.proofErr
 split
 · rfl
 · split
   · rfl
   · rw [if_pos]
     rw [List.any_eq_true]
     refine ⟨othersN t m,List.mem_range.2 (othersN_lt t m),?_⟩
     rw [contains_others hs (othersN_lt t m),othersN_twice h1,h4,contains_sets hs (cutQ_mono t) (fun s hs'=>cutQ_eq hs hs') (othersN_lt t m)]
     have:cutQ t (othersN t m) = false:=by
      unfold pathQ at h2
      unfold cutQ
      cases hf:t.fails (evN (othersN t m)) with
      | false=>rfl
      | true=>rw [hf] at h2; cases h2
     rw [this]
     decide
end Go.Proofs
namespace Go.Proofs
open Go.Tw
theorem bitsOf_two {k:Nat} (hk:k < 16):bitsOf (2 ^ k) = [(k:Int)]:=by
 have h:((List.range 16).all fun k=>decide (bitsOf (2 ^ k) = [(k:Int)])) = true:=by decide +kernel
 simpa using List.all_eq_true.1 h k (List.mem_range.2 hk)
theorem clear_two (k:Nat):clearB (2 ^ k) (2 ^ k) = 0:=by
 apply Nat.eq_of_testBit_eq
 intro i
 rw [clearB_bit]
 cases (2 ^ k).testBit i <;> simp
theorem minB_two {t:Tree} (hv:Valid t) {k:Nat}:minB (cutQ t) t.size (2 ^ k) = cutQ t (2 ^ k):=by
 rw [Bool.eq_iff_iff,minB_iff]
 refine ⟨fun h=>h.1,fun h=>⟨h,fun i _ hb=>?_⟩⟩
 rw [Nat.testBit_two_pow] at hb
 have:k = i:=by simpa using hb
 subst this
 rw [clear_two]
 exact fails_none hv
theorem mem_single {t:Tree} {x:Int}:x ∈ t.single ↔ ∃ k:Nat,k < t.size ∧ x = (k:Int) ∧ cutQ t (2 ^ k) = true:=by
 unfold Tree.single cutQ
 simp only [List.mem_filter,List.mem_map,List.mem_range]
 constructor
 · rintro ⟨⟨k,hk,rfl⟩,h⟩
   exact ⟨k,hk,rfl,by rw [evN_one]; exact h⟩
 · rintro ⟨k,hk,rfl,h⟩
   exact ⟨⟨k,hk,rfl⟩,by rw [evN_one] at h; exact h⟩
theorem single_nodup (t:Tree):t.single.Nodup:=by
 unfold Tree.single
 exact (nodup_map List.nodup_range fun a _ b _ h=>Int.ofNat.inj h).filter _
theorem ones_perm {t:Tree} (hv:Valid t):((t.sets false).filter fun l=>decide (l.length = 1)).Perm (t.single.map fun x=>[x]):=by
 have hs:=hv.size
 refine (List.perm_ext_iff_of_nodup ((sets_nodup hs false).filter _) (nodup_map (single_nodup t) fun a _ b _ h=>by simpa using h)).2 fun l=>?_
 rw [List.mem_filter,List.mem_map,mem_sets hs (fun s hs'=>cutQ_eq hs hs')]
 constructor
 · rintro ⟨⟨s,h1,h2,rfl⟩,h3⟩
   have h3:(bitsOf s).length = 1:=of_decide_eq_true h3
   obtain ⟨x,hx⟩:=List.length_eq_one_iff.1 h3
   obtain ⟨k,hk,hb,he⟩:=mem_bitsOf.1 (show x ∈ bitsOf s by rw [hx]; exact List.mem_cons_self ..)
   have hs16:=small_of hs h1
   have e:s = 2 ^ k:=bitsOf_inj hs16 (Nat.lt_of_lt_of_le (Nat.pow_lt_pow_right (by omega) hk) (by decide)) (by rw [bitsOf_two hk,hx,he])
   have hk2:=bit_lt h1 hb
   refine ⟨x,mem_single.2 ⟨k,hk2,he,?_⟩,hx.symm⟩
   rw [← e]
   exact (minB_iff.1 h2).1
 · rintro ⟨x,hx,rfl⟩
   obtain ⟨k,hk,rfl,h⟩:=mem_single.1 hx
   have hk16:k < 16:=by omega
   refine ⟨⟨2 ^ k,Nat.pow_lt_pow_right (by omega) hk,by rw [minB_two hv]; exact h,(bitsOf_two hk16).symm⟩,rfl⟩
theorem ones_count {t:Tree} (hv:Valid t):((t.sets false).filter fun l=>decide (l.length = 1)).length = t.single.length:=by
 rw [(ones_perm hv).length_eq,List.length_map]
end Go.Proofs
namespace Go.Proofs
open Go.Tw
theorem cover_eq {l:List Int} {s:Nat} (h:∀ i:Nat,has l i = s.testBit i) {p:List Int} (hp:∀ x ∈ p,0 ≤ x):(clearB (maskOf p) s == 0) = p.all fun x=>has l x:=by
 rw [Bool.eq_iff_iff,beq_iff_eq,List.all_eq_true]
 constructor
 · intro h0 x hx
   obtain ⟨i,rfl⟩:∃ i:Nat,x = (i:Int):=⟨x.toNat,by have:=hp x hx; omega⟩
   rw [h i]
   have h1:=clearB_bit (maskOf p) s i
   rw [h0,Nat.zero_testBit,maskOf_bit hp,has_iff.2 hx,Bool.true_and] at h1
   cases hb:s.testBit i with
   | true=>rfl
   | false=>rw [hb] at h1; cases h1
 · intro h0
   apply Nat.eq_of_testBit_eq
   intro i
   rw [clearB_bit,Nat.zero_testBit,maskOf_bit hp]
   cases hb:has p i with
   | false=>rfl
   | true =>
     have:=h0 _ (has_iff.1 hb)
     rw [h i] at this
     rw [this]; rfl
theorem covB_eq {l:List Int} {s:Nat} (h:∀ i:Nat,has l i = s.testBit i) {A:List (List Int)} (hA:∀ p ∈ A,∀ x ∈ p,0 ≤ x):covB s (A.map fun l=>(maskOf l:Int)) = containsB l A:=by
 unfold covB containsB
 rw [Bool.eq_iff_iff,List.any_eq_true,List.any_eq_true]
 constructor
 · rintro ⟨x,hx,h1⟩
   obtain ⟨p,hp,rfl⟩:=List.mem_map.1 hx
   rw [Int.toNat_natCast,cover_eq h (hA p hp)] at h1
   exact ⟨p,hp,h1⟩
 · rintro ⟨p,hp,h1⟩
   refine ⟨_,List.mem_map.2 ⟨p,hp,rfl⟩,?_⟩
   rw [Int.toNat_natCast,cover_eq h (hA p hp)]
   exact h1
theorem othersL_eq {t:Tree} {l:List Int} (hl:∀ x ∈ l,0 ≤ x):evN (othersN t (maskOf l)) = evL (others t.size l):=by
 funext i
 unfold evL evN othersN
 rw [clearB_bit,Nat.testBit_two_pow_sub_one,maskOf_bit hl]
 rw [Bool.eq_iff_iff,has_iff]
 unfold others
 simp only [List.mem_filter,List.mem_map,List.mem_range,Bool.and_eq_true,decide_eq_true_eq]
 constructor
 · rintro ⟨h1,h2⟩
   exact ⟨⟨i,h1,rfl⟩,h2⟩
 · rintro ⟨⟨a,ha,he⟩,h2⟩
   have:a = i:=by have:(a:Int) = (i:Int):=he; omega
   exact ⟨by omega,h2⟩
theorem any_congr_mem {α:Type} {f g:α → Bool}:∀ {l:List α},(∀ x ∈ l,f x = g x) → l.any f = l.any g
 | [],_=>rfl
 | x :: l,h=>by rw [List.any_cons,List.any_cons,h x (List.mem_cons_self ..),any_congr_mem fun y hy=>h y (List.mem_cons_of_mem _ hy)]
theorem cutsBad_eq {t:Tree} {A:List (List Int)} (hA:∀ p ∈ A,∀ x ∈ p,0 ≤ x):cutsBad t A = A.any fun l=>!t.setB l false:=by
 unfold cutsBad
 rw [List.any_map]
 refine any_congr_mem fun l hl=>?_
 show (!t.fails (evN ((maskOf l:Int)).toNat)) = _
 rw [Int.toNat_natCast,evN_mask (hA l hl)]
 rfl
theorem pathsBad_eq {t:Tree} {A:List (List Int)} (hA:∀ p ∈ A,∀ x ∈ p,0 ≤ x):pathsBad t A = A.any fun l=>!t.setB l true:=by
 unfold pathsBad
 rw [List.any_map]
 refine any_congr_mem fun l hl=>?_
 show (!(!t.fails (evN (othersN t ((maskOf l:Int)).toNat)))) = _
 rw [Int.toNat_natCast,othersL_eq (hA l hl)]
 rfl
theorem covN_eq {t:Tree} (hs:t.size ≤ 12) {A B:List (List Int)} (hA:∀ p ∈ A,∀ x ∈ p,0 ≤ x) (hB:∀ p ∈ B,∀ x ∈ p,0 ≤ x) {s:Nat} (h:s < 2 ^ t.size):covN t A B s = (containsB (bitsOf s) A || containsB (others t.size (bitsOf s)) B):=by
 have h16:s < 65536:=Nat.lt_of_lt_of_le h (Nat.le_trans (Nat.pow_le_pow_right (n:=2) (by omega) hs) (by decide))
 unfold covN
 rw [covB_eq (l:=bitsOf s) (fun i=>congrFun (evL_bits h16) i) hA,covB_eq (l:=others t.size (bitsOf s)) (fun i=>congrFun (evL_others hs h) i) hB]
theorem cc_split {t:Tree} (he:t.err = 0) (A B:List (List Int)):ccErr t A B = if firstErr [setsErr t.size A,setsErr t.size B] = 0 then t.proofErr A B else firstErr [setsErr t.size A,setsErr t.size B]:=by
 unfold ccErr
 rw [if_pos he]
 by_cases h:firstErr [setsErr t.size A,setsErr t.size B] = 0
 · rw [if_pos h,if_pos h]
   have hz:=h
   rw [firstErr_zero] at hz
   have hA:∀ p ∈ A,∀ x ∈ p,0 ≤ x:=fun p hp x hx=>((sets_zero (hz (setsErr t.size A) (by simp))).2 p hp x hx).1
   have hB:∀ p ∈ B,∀ x ∈ p,0 ≤ x:=fun p hp x hx=>((sets_zero (hz (setsErr t.size B) (by simp))).2 p hp x hx).1
   unfold Tree.proofErr
   rw [cutsBad_eq hA,pathsBad_eq hB]
   have hs:=(Valid.of he).size
   have e:((List.finRange (2 ^ t.size)).all fun x=>covN t A B x.1) = !((List.range (2 ^ t.size)).any fun s=>!containsB (bitsOf s) A && !containsB (others t.size (bitsOf s)) B):=by
    rw [Bool.eq_iff_iff,List.all_eq_true,Bool.not_eq_true',List.any_eq_false]
    constructor
    · intro h1 s hs1
      have hs2:=List.mem_range.1 hs1
      have:=h1 ⟨s,hs2⟩ (List.mem_finRange _)
      rw [covN_eq hs hA hB hs2] at this
      cases h2:containsB (bitsOf s) A <;> cases h3:containsB (others t.size (bitsOf s)) B <;> simp [h2,h3] at this ⊢
    · intro h1 x _
      have:=h1 x.1 (List.mem_range.2 x.2)
      rw [covN_eq hs hA hB x.2]
      cases h2:containsB (bitsOf x.1) A <;> cases h3:containsB (others t.size (bitsOf x.1)) B <;> simp [h2,h3] at this ⊢
   rw [e]
   cases (List.range (2 ^ t.size)).any fun s=>!containsB (bitsOf s) A && !containsB (others t.size (bitsOf s)) B <;> rfl
 · rw [if_neg h,if_neg h]
end Go.Proofs
namespace Go.Proofs
open Go.Tw
def withinB (l m:List Int):Bool:=l.all fun x=>has m x
theorem asc_of_pairwise:∀ {l:List Int},l.Pairwise (· < ·) → ascB l = true
 | [],_=>rfl
 | [_],_=>rfl
 | x :: y :: l,h=>by
   rw [List.pairwise_cons] at h
   unfold ascB
   rw [asc_of_pairwise h.2,decide_eq_true (h.1 y (List.mem_cons_self ..))]
   rfl
theorem bits_pairwise (s:Nat):(bitsOf s).Pairwise (· < ·):=by
 unfold bitsOf
 rw [List.pairwise_map]
 exact (List.pairwise_lt_range.filter _).imp fun h=>Int.ofNat_lt.2 h
theorem bits_len {n s:Nat} (h:s < 2 ^ n):(bitsOf s).length ≤ n:=by
 unfold bitsOf
 rw [List.length_map]
 exact nodup_bound n _ (List.nodup_range.filter _) fun x hx=>bit_lt h (List.mem_filter.1 hx).2
theorem bits_setErr {n s:Nat} (h:s < 2 ^ n):setErr (bitsOf s) n = 0:=by
 unfold setErr
 rw [asc_of_pairwise (bits_pairwise s),if_pos rfl,if_neg]
 unfold outB
 rw [Bool.not_eq_true,List.any_eq_false]
 intro x hx
 obtain ⟨i,_,hb,rfl⟩:=mem_bitsOf.1 hx
 have:=bit_lt h hb
 simp only [decide_eq_true_eq]
 omega
def QOf (t:Tree) (p:Bool) (q:Nat → Bool):Prop:=Mono q ∧ ∀ s,s < 2 ^ t.size → q s = t.setB (bitsOf s) p
theorem qOf (t:Tree) (hs:t.size ≤ 12):∀ p,∃ q,QOf t p q
 | false=>⟨cutQ t,cutQ_mono t,fun _ h=>cutQ_eq hs h⟩
 | true=>⟨pathQ t,pathQ_mono t,fun _ h=>pathQ_eq hs h⟩
theorem sets_each {t:Tree} (hs:t.size ≤ 12) {p:Bool} {l:List Int} (hl:l ∈ t.sets p):l.length ≤ t.size ∧ setErr l t.size = 0:=by
 obtain ⟨q,_,hq⟩:=qOf t hs p
 obtain ⟨s,h1,_,rfl⟩:=(mem_sets hs hq l).1 hl
 exact ⟨bits_len h1,bits_setErr h1⟩
theorem sets_apart {t:Tree} (hs:t.size ≤ 12) (p:Bool) {i k:Nat} (hi:i < (t.sets p).length) (hk:k < (t.sets p).length) (h:k ≠ i):withinB ((t.sets p).getD k []) ((t.sets p).getD i []) = false:=by
 obtain ⟨q,hm,hq⟩:=qOf t hs p
 rw [getD_of _ hi,getD_of _ hk]
 cases hw:withinB (t.sets p)[k] (t.sets p)[i] with
 | false=>rfl
 | true =>
   exfalso
   obtain ⟨a,a1,a2,ea⟩:=(mem_sets hs hq _).1 (List.getElem_mem hk)
   obtain ⟨b,b1,b2,eb⟩:=(mem_sets hs hq _).1 (List.getElem_mem hi)
   rw [ea,eb] at hw
   have hsub:=(all_bits (small_of hs b1) (small_of hs a1)).1 hw
   have e:=min_only hm b1 (minB_iff.1 a2).1 b2 hsub
   have e2:(t.sets p)[k] = (t.sets p)[i]:=by rw [ea,eb,e]
   have hnd:=List.pairwise_iff_getElem.1 (sets_nodup hs (t:=t) p)
   rcases Nat.lt_or_gt_of_ne h with h | h
   · exact hnd k i hk hi h e2
   · exact hnd i k hi hk h e2.symm
theorem single_has {t:Tree} (hv:Valid t) {x:List Int} (hx:x ∈ t.sets false) (h1:x.length = 1):has t.single (ix x 0) = true:=by
 have hm:x ∈ (t.sets false).filter fun l=>decide (l.length = 1):=List.mem_filter.2 ⟨hx,decide_eq_true h1⟩
 rw [(ones_perm hv).mem_iff,List.mem_map] at hm
 obtain ⟨y,hy,rfl⟩:=hm
 rw [has_iff]
 exact hy
theorem single_len {t:Tree} (hs:t.size ≤ 12):t.single.length ≤ t.size:=by
 unfold Tree.single
 refine Nat.le_trans (List.length_filter_le _ _) ?_
 simp
theorem cut_path_any {t:Tree} (hs:t.size ≤ 12) {x y:List Int} (hx:x ∈ t.sets false) (hy:y ∈ t.sets true):(x.any fun k=>has y k) = true:=by
 obtain ⟨a,a1,a2,rfl⟩:=(mem_sets hs (fun s hs'=>cutQ_eq hs hs') x).1 hx
 obtain ⟨b,b1,b2,rfl⟩:=(mem_sets hs (fun s hs'=>pathQ_eq hs hs') y).1 hy
 obtain ⟨i,h1,h2⟩:=cut_path_share a1 (minB_iff.1 a2).1 (minB_iff.1 b2).1
 rw [List.any_eq_true]
 refine ⟨(i:Int),mem_bitsOf.2 ⟨i,bit_lt (n:=16) (small_of hs a1) h1,h1,rfl⟩,?_⟩
 rw [has_bitsOf (small_of hs b1)]
 exact h2
theorem cuts_fail {t:Tree} (hs:t.size ≤ 12) {s:Nat} (h:s < 2 ^ t.size):((t.sets false).any fun x=>withinB x (bitsOf s)) = t.fails (evL (bitsOf s)):=by
 have:=contains_sets hs (cutQ_mono t) (fun s hs'=>cutQ_eq hs hs') h
 rw [evL_bits (small_of hs h)]
 exact this
theorem paths_free {t:Tree} (hs:t.size ≤ 12) {s:Nat} (h:s < 2 ^ t.size):((t.sets true).any fun x=>withinB x (others t.size (bitsOf s))) = !t.fails (evL (bitsOf s)):=by
 have h1:=contains_others hs h (t.sets true)
 have h2:=contains_sets hs (pathQ_mono t) (fun s hs'=>pathQ_eq hs hs') (othersN_lt t s)
 rw [evL_bits (small_of hs h)]
 exact h1.trans (h2.trans (path_others h))
theorem bits_fails {t:Tree} (he:t.err = 0) {s:Nat} (h:s < 2 ^ t.size):treeSetErr t (bitsOf s) = 0 ∧ failsR t (bitsOf s) = t.fails (evL (bitsOf s)):=by
 have h1:treeSetErr t (bitsOf s) = 0:=by
  unfold treeSetErr
  rw [if_pos he]
  exact bits_setErr h
 refine ⟨h1,?_⟩
 unfold failsR
 rw [if_pos h1]
theorem setsErr_ok {n:Nat} {l:List (List Int)} (hl:l.length ≤ 1024) (h:∀ x ∈ l,setErr x n = 0):setsErr n l = 0:=by
 unfold setsErr
 rw [if_neg (by omega),firstErr_zero]
 intro x hx
 obtain ⟨y,hy,rfl⟩:=List.mem_map.1 hx
 exact h y hy
theorem lessAt_mem {α:Type} {l:List α} {k:Nat} {x:α} (h:x ∈ lessAt l k):x ∈ l:=by
 unfold lessAt at h
 rcases List.mem_append.1 h with h | h
 · exact List.mem_of_mem_take h
 · exact List.mem_of_mem_drop h
theorem lessAt_len {α:Type} (l:List α) (k:Nat):(lessAt l k).length ≤ l.length:=by
 unfold lessAt
 rw [List.length_append,List.length_take,List.length_drop]
 omega
theorem cc_of {t:Tree} (he:t.err = 0) {A B:List (List Int)} (hA:A.length ≤ 1024 ∧ ∀ x ∈ A,setErr x t.size = 0) (hB:B.length ≤ 1024 ∧ ∀ x ∈ B,setErr x t.size = 0):ccErr t A B = t.proofErr A B:=by
 rw [cc_split he,if_pos]
 rw [firstErr_zero]
 intro x hx
 simp only [List.mem_cons,List.not_mem_nil,or_false] at hx
 rcases hx with rfl | rfl
 · exact setsErr_ok hA.1 hA.2
 · exact setsErr_ok hB.1 hB.2
theorem sets_fine {t:Tree} (hs:t.size ≤ 7) (p:Bool):(t.sets p).length ≤ 35 ∧ ∀ x ∈ t.sets p,setErr x t.size = 0:=by
 obtain ⟨q,hm,hq⟩:=qOf t (by omega) p
 exact ⟨sets_count hs hm hq,fun x hx=>(sets_each (by omega) hx).2⟩
theorem cc_whole {t:Tree} (he:t.err = 0) (hs:t.size ≤ 7):ccErr t (t.sets false) (t.sets true) = 0:=by
 have h1:=sets_fine hs false
 have h2:=sets_fine hs true
 rw [cc_of he ⟨by omega,h1.2⟩ ⟨by omega,h2.2⟩]
 exact proof_whole (Valid.of he)
theorem cc_less {t:Tree} (he:t.err = 0) (hs:t.size ≤ 7) {k:Nat} (hk:k < (t.sets false).length):ccErr t (lessAt (t.sets false) k) (t.sets true) = 22:=by
 have h1:=sets_fine hs false
 have h2:=sets_fine hs true
 rw [cc_of he ⟨by have:=lessAt_len (t.sets false) k; omega,fun x hx=>h1.2 x (lessAt_mem hx)⟩ ⟨by omega,h2.2⟩]
 exact proof_less (Valid.of he) hk
theorem cc_fewer {t:Tree} (he:t.err = 0) (hs:t.size ≤ 7) {k:Nat} (hk:k < (t.sets true).length):ccErr t (t.sets false) (lessAt (t.sets true) k) = 22:=by
 have h1:=sets_fine hs false
 have h2:=sets_fine hs true
 rw [cc_of he ⟨by omega,h1.2⟩ ⟨by have:=lessAt_len (t.sets true) k; omega,fun x hx=>h2.2 x (lessAt_mem hx)⟩]
 exact proof_fewer (Valid.of he) hk
end Go.Proofs
namespace Go.Proofs
open Go.RowKit Go.Tw Go.Flow
theorem within_step {l m:List Int} {k:Nat} (h:k < l.length):withinB (l.drop k) m = (has m (ix l k) && withinB (l.drop (k + 1)) m):=by
 rw [drop_ix h]; rfl
set_option maxHeartbeats 400000 in
theorem lwithin_any (w:World) (u v:Value) (l m:List Int) (hu:IsInts w u l) (hv:IsInts w v m) :
    Calls Tryz.prog 18 #[u,v] w fun e w'=>e = .returned (.bool (withinB l m)) ∧ Ext w w':=by
 obtain ⟨A,cap,rfl,hl,hcap,hc⟩:=hu.opened
 have HC:=Lib.hid hc
 have HV:=Lib.hid hv
 clear hu hc hv
 go_enter Tryz.func18,Tryz.ntmps18
 go_wp2
 go_loopw [9] (fun i wr=>∃ k:Nat,k ≤ l.length ∧ i = .int .i64 k ∧ withinB (l.drop k) m = withinB l m ∧ Ext w wr) (fun i _=>l.length - (intOf i).toNat)
 case atStart=>exact ⟨0,Nat.zero_le _,rfl,rfl,Ext.refl _⟩
 case round =>
  obtain ⟨k,hk,rfl,hr,hx⟩:=hrel
  have HR:=Lib.hid hr; clear hr
  by_cases hlt:k < l.length
  · obtain ⟨b,off,rfl,hcell⟩:=HC.out k hlt
    replace hcell:=hx.cell hcell
    have HST:=Lib.hid (within_step (m:=m) hlt)
    obtain ⟨x,hx0⟩:∃ x,ix l k = x:=⟨_,rfl⟩
    rw [hx0] at hcell HST
    clear hx0
    go_wp2_with fail
    refine (HasInt_any _ _ m x (HV.out.ext hx)).mono ?_
    rintro e w2 ⟨rfl,rfl⟩
    cases hq:has m x with
    | true =>
      rw [hq] at HST
      clear hq
      go_wp2
      go_roundw
      case rel=>exact ⟨k + 1,by omega,by go_num,by rw [← HR.out,HST.out,Bool.true_and],hx⟩
      case measure=>simp [intOf]; omega
    | false =>
      rw [hq] at HST
      clear hq
      go_wp2
      go_ret
      exact ⟨ret_bool (by rw [← HR.out,HST.out,Bool.false_and]),hx⟩
  · go_wp2
    go_ret
    exact ⟨ret_bool (by rw [← HR.out,List.drop_eq_nil_of_le (by omega)]; rfl),hx⟩
end Go.Proofs
namespace Go.Proofs
open Go.RowKit Go.Tw Go.Flow
theorem take_snocL {ll:List (List Int)} {k:Nat} (hk:k < ll.length):ll.take k ++ [ll.getD k []] = ll.take (k + 1):=by
 rw [List.take_succ_eq_append_getElem hk]; simp [hk]
theorem lists_read {w:World} {base:Nat} {T:TypeId} {v:Value} {vs:List Value} {ll:List (List Int)} (h:Own1 w base T idV v vs) (hlen:vs.length = ll.length) (hl:ll.length ≤ 2000) (hm:∀ j,j < ll.length → Own1 w 0 3 (.int .i64) (vs.getD j undef) (ll.getD j []) ∧ (ll.getD j []).length ≤ 1000):IsIntss w v ll:=by
 have hr:=h.row (by omega) (fun j=>vs.getD j undef) (fun k hk=>by simp [hk,idV])
 rw [hlen] at hr
 refine ⟨fun j=>vs.getD j undef,hr,fun j hj=>?_⟩
 obtain ⟨h1,h2⟩:=hm j hj
 have:=h1.ints (by omega)
 rw [getD_of _ hj] at this
 simpa using this
theorem getD_snoc {vs:List Value} {u:Value} {j:Nat}:(vs ++ [u]).getD j undef = if j < vs.length then vs.getD j undef else if j = vs.length then u else undef:=by
 by_cases h:j < vs.length
 · rw [if_pos h]; simp [List.getElem?_append_left h]
 · rw [if_neg h]
   by_cases h2:j = vs.length
   · rw [if_pos h2]; subst h2; simp
   · rw [if_neg h2]
     have:vs.length + 1 ≤ j:=by omega
     simp [List.getD_eq_getElem?_getD,this]
set_option maxHeartbeats 1000000 in
theorem lists_own (w:World) (v:Value) (ll:List (List Int)) (hv:IsIntss w v ll) (hle:ll.length ≤ 1025) (h14:∀ j,j < ll.length → (ll.getD j []).length ≤ 14) :
    Calls Tryz.prog 26 #[v] w fun e w'=>∃ u vs,e = .returned u ∧ vs.length = ll.length ∧ Own1 w' w.heap.size 39 idV u vs ∧ (∀ j,j < ll.length → Own1 w' 0 3 (.int .i64) (vs.getD j undef) (ll.getD j [])) ∧ Ext w w':=by
 obtain ⟨i0,hi,hz0,hz1,hz2⟩:=info_parts Tryz.info39
 obtain ⟨A,cap,rfl,hl,hcap,hc⟩:=hv.opened
 have HC:=Lib.hid hc
 have H14:=Lib.hid h14
 clear hv hc h14
 go_enter Tryz.func26,Tryz.ntmps26
 go_wp2
 go_loopw [3,8] (fun o i wr=>∃ (k:Nat) (vs:List Value),k ≤ ll.length ∧ i = .int .i64 k ∧ vs.length = k ∧ Own1 wr w.heap.size 39 idV o vs ∧ (∀ j,j < k → Own1 wr 0 3 (.int .i64) (vs.getD j undef) (ll.getD j [])) ∧ Ext w wr) (fun _ i _=>ll.length - (intOf i).toNat)
 case atStart=>exact ⟨0,[],Nat.zero_le _,rfl,rfl,Own1.nil _ _ _ _,fun j hj=>by omega,Ext.refl _⟩
 case round =>
  obtain ⟨k,vs,hk,rfl,hvl,hown,hmem,hx⟩:=hrel
  by_cases hlt:k < ll.length
  · obtain ⟨b,off,m,rfl,_,hcell,hm⟩:=HC.out k hlt
    replace hcell:=hx.cell hcell
    have HM:=Lib.hid (hm.ext hx)
    obtain ⟨l,hl0⟩:∃ l,ll.getD k [] = l:=⟨_,rfl⟩
    have HL14:Hid (l.length ≤ 14):=by exact (by rw [← hl0]; exact H14.out k hlt:l.length ≤ 14)
    rw [hl0] at HM
    have HL:=Lib.hid hl0
    have HME:=Lib.hid hmem
    have HVL:=Lib.hid hvl
    clear hm hl0 hmem hvl
    go_wp2_with fail
    refine (lints_any _ _ l HM.out (by have:=HL14.out; omega)).mono ?_
    rintro e wa ⟨u,rfl,hu,hx1⟩
    obtain ⟨A9,c9,hush,_⟩:=hu.shape
    have HUO:=Lib.hid (Own1.weaken hu (Nat.zero_le _))
    have hown1:=hown.below hx1
    have HME1:=Lib.hid (fun j (hj:j < k)=>(HME.out j hj).below hx1)
    have hx2:=hx.trans hx1
    rw [hush] at HUO ⊢
    unfold Own1 at hown1
    obtain ⟨n,hn⟩:∃ n,l.length = n:=⟨_,rfl⟩
    rw [hn] at HUO ⊢
    have hvl':=HVL.out
    clear hown hu hx hx1 hush HM HME hcell hn
    go_wp2_with (at_builtin; refine wpList_append_own _ rfl _ _ 29 rfl (w.heap.size) 39 i0 (.slice none 0 0) 1 24 Tryz.underlying29 hi hz0 hz1 hz2 rfl (by decide) _ _ _ rfl (World.ownsRow.alloc hown1 _) ⟨wa.heap.size,0,none⟩ 1 1 [.slice A9 n c9] rfl rfl ?_ ?_ ?_ ?_ ?_ ?_; exact one_new _ _ _; (focus (simp [Value.oneCell'])); (focus (unfold maxLen; omega)); (focus omega); (focus (have:=hx2.size; simp at this ⊢; omega)); intro v' w1 hown' hgrow _)
    have hx':=ext_grown hx2 hown1 (Nat.le_refl _) hgrow
    have hal:=Ext.box wa (.cells #[.slice A9 n c9] 39)
    have HOW:Hid (Own1 w1 w.heap.size 39 idV v' (vs ++ [Value.slice A9 n c9])):=by exact (Own1.snoc (enc:=idV) (x:=.slice A9 n c9) hown':Own1 w1 w.heap.size 39 idV v' (vs ++ [Value.slice A9 n c9]))
    have HM2:Hid (∀ j,j < k + 1 → Own1 w1 0 3 (.int .i64) ((vs ++ [Value.slice A9 n c9]).getD j undef) (ll.getD j [])):=by
     exact (fun j hj=>by
      rw [getD_snoc,HVL.out]
      by_cases hjk:j < k
      · rw [if_pos hjk]
        exact own1_grownT ((HME1.out j hjk).below hal) (World.ownsRow.alloc hown1 _) (by decide) hgrow
      · have hjk2:j = k:=by omega
        rw [if_neg hjk,if_pos hjk2,hjk2,HL.out]
        exact own1_grownT (HUO.out.below hal) (World.ownsRow.alloc hown1 _) (by decide) hgrow:∀ j,j < k + 1 → Own1 w1 0 3 (.int .i64) ((vs ++ [Value.slice A9 n c9]).getD j undef) (ll.getD j []))
    go_wp2
    go_roundw
    case rel=>exact ⟨k + 1,vs ++ [Value.slice A9 n c9],by omega,by go_num,by simp [HVL.out],HOW.out,HM2.out,hx'⟩
    case measure=>simp [intOf]; omega
  · have e:k = ll.length:=by omega
    subst e
    have HR:=Lib.hid hown
    have HME:=Lib.hid hmem
    have HVL:=Lib.hid hvl
    clear hown hmem hvl
    go_wp2
    go_ret
    exact ⟨_,vs,rfl,HVL.out,HR.out,HME.out,hx⟩
theorem lists_any (w:World) (v:Value) (ll:List (List Int)) (hv:IsIntss w v ll) (hle:ll.length ≤ 1025) (h14:∀ j,j < ll.length → (ll.getD j []).length ≤ 14) :
    Calls Tryz.prog 26 #[v] w fun e w'=>∃ u,e = .returned u ∧ IsIntss w' u ll ∧ Ext w w' :=
 (lists_own w v ll hv hle h14).mono fun _ _ ⟨u,_,h1,h2,h3,h4,h5⟩=>⟨u,h1,lists_read h3 h2 (by omega) (fun j hj=>⟨h4 j hj,by have:=h14 j hj; omega⟩),h5⟩
end Go.Proofs
namespace Go.Proofs
open Go.RowKit Go.Tw Go.Flow
theorem rows_take {α:Type} {R:World → (Nat → Value) → α → Prop} {w:World} {A:Option Addr} {n cap:Nat} {l:List α} (h:Go.Tw.Rows 1 R w (.slice A n cap) l) {k:Nat} (hk:k ≤ l.length):Go.Tw.Rows 1 R w (.slice A k cap) (l.take k):=by
 obtain ⟨c,⟨A',cap',hv,hn,hcap,hc⟩,h2⟩:=h
 cases hv
 have hl:(l.take k).length = k:=by rw [List.length_take]; omega
 refine ⟨c,⟨A,cap,by rw [hl],by omega,by omega,fun j hj=>hc j (by omega)⟩,fun j hj=>?_⟩
 rw [List.getElem_take]
 exact h2 j (by omega)
theorem rows_drop {α:Type} {R:World → (Nat → Value) → α → Prop} {w:World} {b off n cap:Nat} {l:List α} (hloc:∀ c c' x,c 0 = c' 0 → R w c x → R w c' x) (h:Go.Tw.Rows 1 R w (.slice (some ⟨b,off,none⟩) n cap) l) {k:Nat} (hk:k ≤ l.length) :
    Go.Tw.Rows 1 R w (.slice (if cap = k then some ⟨b,off,none⟩ else some ⟨b,off + k,none⟩) (l.length - k) (cap - k)) (l.drop k):=by
 obtain ⟨c,⟨A',cap',hv,hn,hcap,hc⟩,h2⟩:=h
 cases hv
 have hl:(l.drop k).length = l.length - k:=List.length_drop
 refine ⟨fun j=>c (j + k),⟨_,_,by rw [hl],by omega,by omega,fun j hj=>?_⟩,fun j hj=>?_⟩
 · obtain ⟨b',off',hA,hcell⟩:=hc (j + k) (by omega)
   cases hA
   rw [if_neg (by omega)]
   exact ⟨b,off + k,rfl,by rw [Nat.add_assoc,Nat.add_comm k j]; exact hcell⟩
 · rw [List.getElem_drop]
   refine hloc _ _ _ ?_ (h2 (k + j) (by omega))
   show c ((k + j) * 1 + 0) = c ((j * 1 + 0) + k)
   congr 1
   omega
theorem intss_take {w:World} {A:Option Addr} {n cap:Nat} {l:List (List Int)} (h:IsIntss w (.slice A n cap) l) {k:Nat} (hk:k ≤ l.length):IsIntss w (.slice A k cap) (l.take k):=rows_take h hk
theorem intss_drop {w:World} {b off n cap:Nat} {l:List (List Int)} (h:IsIntss w (.slice (some ⟨b,off,none⟩) n cap) l) {k:Nat} (hk:k ≤ l.length) :
    IsIntss w (.slice (if cap = k then some ⟨b,off,none⟩ else some ⟨b,off + k,none⟩) (l.length - k) (cap - k)) (l.drop k):=rows_drop (fun _ _ _ e h=>e ▸ h) h hk
def ListsP (B:Nat) (w:World) (v:Value) (ll:List (List Int)):Prop:=∃ vs:List Value,vs.length = ll.length ∧ Own1 w B 39 idV v vs ∧ ∀ j,j < ll.length → Own1 w 0 3 (.int .i64) (vs.getD j undef) (ll.getD j [])
theorem ListsP.ext {B:Nat} {w w':World} {v:Value} {ll:List (List Int)} (h:ListsP B w v ll) (hx:Ext w w'):ListsP B w' v ll :=
 let ⟨vs,h1,h2,h3⟩:=h; ⟨vs,h1,h2.below hx,fun j hj=>(h3 j hj).below hx⟩
theorem ListsP.read {B:Nat} {w:World} {v:Value} {ll:List (List Int)} (h:ListsP B w v ll) (hl:ll.length ≤ 2000) (hs:∀ j,j < ll.length → (ll.getD j []).length ≤ 1000):IsIntss w v ll :=
 let ⟨_,h1,h2,h3⟩:=h; lists_read h2 h1 hl fun j hj=>⟨h3 j hj,hs j hj⟩
theorem ListsP.shape {B:Nat} {w:World} {v:Value} {ll:List (List Int)} (h:ListsP B w v ll):∃ b c,v = .slice b ll.length c ∧ ll.length ≤ c:=by
 obtain ⟨vs,h1,h2,_⟩:=h
 rw [← h1]
 exact h2.shape
theorem lists_ownP (w:World) (v:Value) (ll:List (List Int)) (B:Nat) (hv:IsIntss w v ll) (hle:ll.length ≤ 1025) (h14:∀ j,j < ll.length → (ll.getD j []).length ≤ 14) (hB:B ≤ w.heap.size) :
    Calls Tryz.prog 26 #[v] w fun e w'=>∃ u,e = .returned u ∧ ListsP B w' u ll ∧ Ext w w' :=
 (lists_own w v ll hv hle h14).mono fun _ _ ⟨u,vs,h1,h2,h3,h4,h5⟩=>⟨u,h1,⟨vs,h2,h3.weaken hB,h4⟩,h5⟩
theorem getD_app {α:Type} (a b:List α) (d:α) (j:Nat):(a ++ b).getD j d = if j < a.length then a.getD j d else b.getD (j - a.length) d:=by
 by_cases h:j < a.length
 · rw [if_pos h]; simp [List.getElem?_append_left h]
 · rw [if_neg h]; simp [List.getElem?_append_right (show a.length ≤ j by omega)]
theorem own1_src {w:World} {B:Nat} {T:TypeId} {v:Value} {vs:List Value} (h:Own1 w B T idV v vs):Src w idV v vs:=by
 obtain ⟨A,c,hv,_,hc⟩:=h.cells
 exact ⟨A,c,hv,fun j hj=>let ⟨g,h1,_,_,h2⟩:=hc j hj; ⟨g,0,h1,h2⟩⟩
theorem gives_append_lists {K:Value → World → Prop} {o:Oper} {a:Act} {w:World} (s x:Operand) (ho:o.op = .call { callee:=.builtin .append,args:=#[s,x],argTypes:=#[29,29] })
    {B:Nat} {v u:Value} {L M:List (List Int)} (hs:a.eval s = v) (h1:ListsP B w v L) (hx:a.eval x = u) (h2:ListsP B w u M) (hL:L.length ≤ 2000) (hM:M.length ≤ 2000) (hB:B ≤ w.heap.size)
    (hK:∀ v' w',ListsP B w' v' (L ++ M) → Below B w w' → K v' w'):gives Tryz.prog K ((execOp a.eval o).run Tryz.prog w):=by
 obtain ⟨i0,hi,hz0,hz1,hz2⟩:=info_parts Tryz.info39
 obtain ⟨vs,l1,o1,m1⟩:=h1
 obtain ⟨us,l2,o2,m2⟩:=h2
 refine gives_append_row s x 29 ho B 39 i0 (.slice none 0 0) 24 Tryz.underlying29 hi hz0 hz1 hz2 rfl idV v u vs us hs o1 hx (own1_src o2) (fun y hy=>?_) (by omega) (by decide) hB fun v' w' hown hg=>hK _ _ ⟨vs ++ us,by simp [l1,l2],hown,fun j hj=>?_⟩ (below_grown o1 hg (Nat.le_refl _) hB)
 · obtain ⟨i,hi',rfl⟩:=List.getElem_of_mem hy
   have:=own1_one (m2 i (by omega))
   rw [getD_of _ hi'] at this
   exact this
 · rw [getD_app,getD_app,l1]
   rw [List.length_append] at hj
   by_cases h:j < L.length
   · rw [if_pos h,if_pos h]
     exact own1_grownT (m1 j h) o1 (by decide) hg
   · rw [if_neg h,if_neg h]
     exact own1_grownT (m2 _ (by omega)) o1 (by decide) hg
theorem short_take {L:List (List Int)} {n:Nat} (h:∀ j,j < L.length → (L.getD j []).length ≤ n) (k:Nat):∀ j,j < (L.take k).length → ((L.take k).getD j []).length ≤ n:=by
 intro j hj
 rw [List.length_take] at hj
 have e:(L.take k).getD j [] = L.getD j []:=by simp [List.getElem?_take,show j < k by omega]
 rw [e]
 exact h j (by omega)
theorem short_drop {L:List (List Int)} {n:Nat} (h:∀ j,j < L.length → (L.getD j []).length ≤ n) (k:Nat):∀ j,j < (L.drop k).length → ((L.drop k).getD j []).length ≤ n:=by
 intro j hj
 rw [List.length_drop] at hj
 have e:(L.drop k).getD j [] = L.getD (k + j) []:=by simp
 rw [e]
 exact h _ (by omega)
theorem short_less {L:List (List Int)} {n:Nat} (h:∀ j,j < L.length → (L.getD j []).length ≤ n) (k:Nat):∀ j,j < (lessAt L k).length → ((lessAt L k).getD j []).length ≤ n:=by
 intro j hj
 unfold lessAt at hj ⊢
 rw [getD_app]
 rw [List.length_append] at hj
 split
 · exact short_take h k j (by assumption)
 · exact short_drop h (k + 1) _ (by omega)
end Go.Proofs
namespace Go.Proofs
open Go.RowKit Go.Tw Go.Flow
theorem wpList_val {P:Program} {w:World} {ops:Array Oper} {rest:List Oper} {o:Oper} {a:Act} {Q:Exit → Act → World → Prop} (hg:o.guard = none) {v:Value} (hr:(execOp a.eval o).run P w = .ok (.value v) w) (hK:wpList P ops Q rest (a.put o.dst v) w):wpList P ops Q (o :: rest) a w:=by
 refine wpList_plain hg fun K' hK'=>?_
 unfold Oper.wp
 rw [hr]
 exact hK' _ _ hK
theorem run_build_ll (w:World) (a b:Option Addr) (n c m d:Nat):(Instr.build 42 #[(0,.slice a n c),(1,.slice b m d)]).run Tryz.prog w = .ok (.agg #[.slice a n c,.slice b m d]) w:=by kernel_rfl
theorem run_build_llop {w:World} {o:Oper} {A:Act} (x y:Operand) (hop:o.op = .build 42 #[(0,x),(1,y)]) {a b:Option Addr} {n c m d:Nat} (hx:A.eval x = .slice a n c) (hy:A.eval y = .slice b m d):(execOp A.eval o).run Tryz.prog w = .ok (.value (.agg #[.slice a n c,.slice b m d])) w:=by
 unfold execOp
 simp only [hop,List.map_toArray,List.map_cons,List.map_nil,hx,hy,Sem.run_bind,run_build_ll,Result.andThen_ok,Sem.run_pure]
theorem run_index_ll (w:World) (a b:Option Addr) (n c m d k:Nat) (hk:k < 2):(Instr.index 42 (.agg #[.slice a n c,.slice b m d]) (.int .i64 (k:Int))).run Tryz.prog w = .ok (if k = 0 then .slice a n c else .slice b m d) w:=by
 obtain rfl | rfl:k = 0 ∨ k = 1:=by omega
 · kernel_rfl
 · kernel_rfl
theorem run_index_llop {w:World} {o:Oper} {A:Act} (x y:Operand) (hop:o.op = .index 42 x y) {a b:Option Addr} {n c m d k:Nat} (hk:k < 2) {V:Value} (hV:(if k = 0 then Value.slice a n c else .slice b m d) = V) (hx:A.eval x = .agg #[.slice a n c,.slice b m d]) (hy:A.eval y = .int .i64 (k:Int)):(execOp A.eval o).run Tryz.prog w = .ok (.value V) w:=by
 unfold execOp
 simp only [hop,hx,hy,Sem.run_bind,run_index_ll w a b n c m d k hk,Result.andThen_ok,Sem.run_pure,hV]
theorem lCuts (w:World) (u:Value) (t:Tree) (p:Bool) (he:t.err = 0) (hu:IsTree w u t) (hT:Tab w) :
    Calls Tryz.prog (if p then 15 else 13) #[u] w fun e w'=>∃ x,e = .returned (.tuple #[x,.int .i64 0]) ∧ IsIntss w' x (t.sets p) ∧ Ext w w':=by
 have e:setsR t p = t.sets p:=by unfold setsR; rw [if_pos he]
 cases p with
 | false=>have h:=pCuts_any w u t hu hT; rw [he,e] at h; exact h
 | true=>have h:=pPaths_any w u t hu hT; rw [he,e] at h; exact h
theorem lSingle (w:World) (u:Value) (t:Tree) (he:t.err = 0) (hu:IsTree w u t) :
    Calls Tryz.prog 16 #[u] w fun e w'=>∃ x,e = .returned (.tuple #[x,.int .i64 0]) ∧ IsInts w' x t.single ∧ Ext w w':=by
 have e:singleR t = t.single:=by unfold singleR; rw [if_pos he]
 have h:=pSingle_any w u t hu
 rw [he,e] at h
 exact h
theorem lFails (w:World) (u v:Value) (t:Tree) (s:Nat) (f:Bool) (he:t.err = 0) (hs:s < 2 ^ t.size) (hf:t.fails (evL (bitsOf s)) = f) (hu:IsTree w u t) (hv:IsInts w v (bitsOf s)) :
    Calls Tryz.prog 22 #[u,v] w fun e w'=>e = .returned (.tuple #[.bool f,.int .i64 0]) ∧ Ext w w':=by
 have h:=pFails_any w u v t (bitsOf s) hu hv
 rw [(bits_fails he hs).1,(bits_fails he hs).2,hf] at h
 exact h
theorem lCC (w:World) (v u z:Value) (t:Tree) (A B:List (List Int)) (r:Int) (hr:ccErr t A B = r) (ht:IsTree w v t) (hu:IsIntss w u A) (hz:IsIntss w z B) :
    Calls Tryz.prog 25 #[v,u,z] w fun e w'=>e = .returned (.int .i64 r) ∧ Ext w w':=by
 have h:=pCheckCuts_any w v u z t A B ht hu hz
 rw [hr] at h
 exact h
theorem lCheckSet (w:World) (v u:Value) (t:Tree) (l:List Int) (hl:setErr l t.size = 0) (ht:IsTree w v t) (hu:IsInts w u l) :
    Calls Tryz.prog 17 #[v,u] w fun e w'=>e = .returned (.int .i64 0) ∧ Ext w w':=by
 have h:=CheckSet_any w v u t l ht hu
 rw [hl] at h
 exact h
theorem lHas (w:World) (v:Value) (l:List Int) (x:Int) (q:Bool) (hq:has l x = q) (hv:IsInts w v l) :
    Calls Tryz.prog 19 #[v,.int .i64 x] w fun e w'=>e = .returned (.bool q) ∧ Ext w w':=by
 refine (HasInt_any w v l x hv).mono ?_
 rintro e w' ⟨rfl,rfl⟩
 exact ⟨by rw [hq],Ext.refl _⟩
theorem lWithin (w:World) (u v:Value) (l m:List Int) (q:Bool) (hq:withinB l m = q) (hu:IsInts w u l) (hv:IsInts w v m) :
    Calls Tryz.prog 18 #[u,v] w fun e w'=>e = .returned (.bool q) ∧ Ext w w':=by
 rw [← hq]
 exact lwithin_any w u v l m hu hv
structure LFacts (t:Tree) (L:List (List Int)):Prop where
 le:L.length ≤ 35
 each:∀ k,k < L.length → (L.getD k []).length ≤ 7 ∧ setErr (L.getD k []) t.size = 0
 apart:∀ i k,i < L.length → k < L.length → k ≠ i → withinB (L.getD k []) (L.getD i []) = false
theorem lfacts {t:Tree} (hs:t.size ≤ 7) (p:Bool):LFacts t (t.sets p) where
 le:=(sets_fine hs p).1
 each k hk:=by
  rw [getD_of _ hk]
  have:=sets_each (t:=t) (by omega) (List.getElem_mem hk)
  exact ⟨by omega,this.2⟩
 apart i k hi hk h:=sets_apart (by omega) p hi hk h
def onesTo (L:List (List Int)) (k:Nat):Nat:=((L.take k).filter fun l=>decide (l.length = 1)).length
theorem ones_step {L:List (List Int)} {k:Nat} (hk:k < L.length):onesTo L (k + 1) = onesTo L k + if (L.getD k []).length = 1 then 1 else 0:=by
 unfold onesTo
 rw [← take_snocL hk,List.filter_append,List.length_append]
 obtain ⟨x,hx⟩:∃ x,L.getD k [] = x:=⟨_,rfl⟩
 rw [hx]
 by_cases h:x.length = 1
 · simp [h]
 · simp [h]
theorem ones_le (L:List (List Int)) (k:Nat):onesTo L k ≤ k:=by
 unfold onesTo
 refine Nat.le_trans (List.length_filter_le _ _) ?_
 rw [List.length_take]
 omega
theorem any_drop {α:Type} {l:List α} {f:α → Bool} {k:Nat} {d:α} (h:k < l.length):(l.drop k).any f = (f (l.getD k d) || (l.drop (k + 1)).any f):=by
 rw [List.drop_eq_getElem_cons h,List.any_cons,getD_of _ h]
theorem shl1 (n:Nat) (h:n ≤ 7):(2:Nat) ^ n ≤ 128:=Nat.le_trans (Nat.pow_le_pow_right (n:=2) (by omega) h) (by decide)
theorem lOthers (w:World) (v u:Value) (t:Tree) (l:List Int) (hn:t.size ≤ 12) (ht:IsTree w v t) (hl:IsInts w u l) :
    Calls Tryz.prog 24 #[v,u] w fun e w'=>∃ x,e = .returned x ∧ IsInts w' x (others t.size l) ∧ Ext w w':=Others_any w v u t l (by omega) ht hl
end Go.Proofs
namespace Go.Proofs
open Go.RowKit Go.Tw Go.Flow
set_option maxRecDepth 100000 in
set_option maxHeartbeats 16000000 in
theorem faultMonotone_any (w:World) (v:Value) (t:Tree) (nn:Nat) (hn:nn < 256) (ht:IsTree w v t) (hT:Tab w) :
    Calls Tryz.prog 3 #[v,.int .u8 (nn:Int)] w fun e w'=>e = .returned (.bool true) ∧ Ext w w':=by
 obtain ⟨a,b,c,rfl,h3⟩:=ht
 obtain ⟨A,capa,rfl,hl1,hcap1,_⟩:=h3.basics.opened
 obtain ⟨B,capb,rfl,hl2,hcap2,_⟩:=h3.causes.opened
 obtain ⟨G,capg,rfl,hl3,hcap3,_⟩:=h3.gates.opened
 have HT0:=Lib.hid h3
 clear h3
 have HTAB:=Lib.hid hT
 clear hT
 obtain ⟨i0,hi,hz0,hz1,hz2⟩:=info_parts Tryz.info39
 go_enter Tryz.func3,Tryz.ntmps3
 go_wp2_with fail
 change Calls _ _ _ (w.alloc (.cells #[.slice A t.basics.length capa,.slice B t.causes.length capb,.slice G t.gates.length capg] 26)) _
 have k0:=Blk.made w 26 #[.slice A t.basics.length capa,.slice B t.causes.length capb,.slice G t.gates.length capg]
 have x0:=Ext.box w (.cells #[.slice A t.basics.length capa,.slice B t.causes.length capb,.slice G t.gates.length capg] 26)
 have es0:(w.alloc (.cells #[.slice A t.basics.length capa,.slice B t.causes.length capb,.slice G t.gates.length capg] 26)).heap.size = w.heap.size + 1:=by simp
 obtain ⟨X0,hX0⟩:∃ X,w.alloc (.cells #[.slice A t.basics.length capa,.slice B t.causes.length capb,.slice G t.gates.length capg] 26) = X:=⟨_,rfl⟩
 rw [hX0] at k0 x0 es0 ⊢
 clear hX0
 have e0:X0.heap.size = w.heap.size + 1:=by omega
 have HXW:Hid (Ext w X0):=by exact (x0:Ext w X0)
 have eW:X0.heap.size = w.heap.size + 1:=e0
 clear x0 es0 e0
 obtain ⟨W,hWW⟩:∃ W,X0 = W:=⟨_,rfl⟩
 rw [hWW] at HXW eW ⊢ k0
 clear hWW
 obtain ⟨WB,hWB⟩:∃ X,W = X:=⟨_,rfl⟩
 rw [hWB] at HXW eW k0 ⊢
 clear hWB
 have HT:=Lib.hid (HT0.out.ext HXW.out)
 have K0:=Lib.hid k0
 replace HTAB:=Lib.hid (HTAB.out.ext HXW.out)
 have HW0:=Lib.hid HXW.out
 have HX:=Lib.hid (Ext.refl WB)
 have c0:=k0.cell 0
 have c1:=k0.cell 1
 have c2:=k0.cell 2
 simp only [List.getElem?_toArray,List.getElem?_cons_zero,List.getElem?_cons_succ] at c0 c1 c2
 clear k0 HXW
 skip
 refine (awake_any _ HTAB.out).mono ?_
 rintro e w1 ⟨rfl,hx⟩
 have hxx:Ext WB w1:=hx
 replace HX:=Lib.hid (HX.out.trans hxx)
 replace HT:=Lib.hid (HT.out.ext hxx)
 replace c0:=hxx.cell c0
 replace c1:=hxx.cell c1
 replace c2:=hxx.cell c2
 replace HTAB:=Lib.hid (HTAB.out.ext hxx)
 replace K0:=Lib.hid (K0.out.ext hxx)
 clear hx hxx
 go_wp2_with fail
 refine (lvalid_any _ _ t 7 ⟨_,_,_,rfl,HT.out⟩ (by omega)).mono ?_
 rintro e w2 ⟨q,rfl,hq,hx,_⟩
 replace HX:=Lib.hid (HX.out.trans hx)
 replace HT:=Lib.hid (HT.out.ext hx)
 replace c0:=hx.cell c0
 replace c1:=hx.cell c1
 replace c2:=hx.cell c2
 replace HTAB:=Lib.hid (HTAB.out.ext hx)
 replace K0:=Lib.hid (K0.out.ext hx)
 clear hx
 cases q with
 | false =>
   clear hq
   clear c0 c1 c2
   go_wp2_with fail
   refine (awake_any _ HTAB.out).mono ?_
   rintro e w3 ⟨rfl,hx⟩
   have hxx:Ext w2 w3:=hx
   replace HX:=Lib.hid (HX.out.trans hxx)
   replace HT:=Lib.hid (HT.out.ext hxx)
   replace HTAB:=Lib.hid (HTAB.out.ext hxx)
   replace K0:=Lib.hid (K0.out.ext hxx)
   clear hx hxx
   go_wp2
   go_ret
   exact ⟨rfl,HW0.out.trans HX.out⟩
 | true =>
   have HE:=Lib.hid (hq rfl).1
   have HF:=Lib.hid ((hq rfl).2.1.few (by omega))
   have HSZ:=Lib.hid (hq rfl).2.2
   have HV:=Lib.hid (Valid.of HE.out)
   clear hq
   go_wp2_with fail
   refine (own_any _ _ t ⟨_,_,_,rfl,HT.out⟩ HF.out).mono ?_
   rintro e w3 ⟨uu,rfl,hu,hx⟩
   have hxx:Ext w2 w3:=hx
   replace HX:=Lib.hid (HX.out.trans hxx)
   replace HT:=Lib.hid (HT.out.ext hxx)
   replace c0:=hxx.cell c0
   replace c1:=hxx.cell c1
   replace c2:=hxx.cell c2
   replace HTAB:=Lib.hid (HTAB.out.ext hxx)
   replace K0:=Lib.hid (K0.out.ext hxx)
   have HU:=Lib.hid (hu)
   clear hx hxx
   clear hu
   go_wp2_with fail
   refine (lCuts _ _ t false HE.out HU.out HTAB.out).mono ?_
   rintro e w4 ⟨xc,rfl,hc,hx⟩
   have hxx:Ext w3 w4:=hx
   replace HX:=Lib.hid (HX.out.trans hxx)
   replace HT:=Lib.hid (HT.out.ext hxx)
   replace c0:=hxx.cell c0
   replace c1:=hxx.cell c1
   replace c2:=hxx.cell c2
   replace HTAB:=Lib.hid (HTAB.out.ext hxx)
   replace K0:=Lib.hid (K0.out.ext hxx)
   replace HU:=Lib.hid (HU.out.ext hxx)
   have HC:=Lib.hid (hc)
   clear hx hxx
   clear hc
   clear HU
   go_wp2_with fail
   refine (own_any _ _ t ⟨_,_,_,rfl,HT.out⟩ HF.out).mono ?_
   rintro e w5 ⟨uu,rfl,hu,hx⟩
   have hxx:Ext w4 w5:=hx
   replace HX:=Lib.hid (HX.out.trans hxx)
   replace HT:=Lib.hid (HT.out.ext hxx)
   replace c0:=hxx.cell c0
   replace c1:=hxx.cell c1
   replace c2:=hxx.cell c2
   replace HTAB:=Lib.hid (HTAB.out.ext hxx)
   replace K0:=Lib.hid (K0.out.ext hxx)
   replace HC:=Lib.hid (HC.out.ext hxx)
   have HU:=Lib.hid (hu)
   clear hx hxx
   clear hu
   go_wp2_with fail
   refine (lCuts _ _ t true HE.out HU.out HTAB.out).mono ?_
   rintro e w6 ⟨xp,rfl,hc,hx⟩
   have hxx:Ext w5 w6:=hx
   replace HX:=Lib.hid (HX.out.trans hxx)
   replace HT:=Lib.hid (HT.out.ext hxx)
   replace c0:=hxx.cell c0
   replace c1:=hxx.cell c1
   replace c2:=hxx.cell c2
   replace HTAB:=Lib.hid (HTAB.out.ext hxx)
   replace K0:=Lib.hid (K0.out.ext hxx)
   replace HC:=Lib.hid (HC.out.ext hxx)
   replace HU:=Lib.hid (HU.out.ext hxx)
   have HP:=Lib.hid (hc)
   clear hx hxx
   clear hc
   clear HU
   go_wp2_with fail
   refine (own_any _ _ t ⟨_,_,_,rfl,HT.out⟩ HF.out).mono ?_
   rintro e w7 ⟨uu,rfl,hu,hx⟩
   have hxx:Ext w6 w7:=hx
   replace HX:=Lib.hid (HX.out.trans hxx)
   replace HT:=Lib.hid (HT.out.ext hxx)
   replace c0:=hxx.cell c0
   replace c1:=hxx.cell c1
   replace c2:=hxx.cell c2
   replace HTAB:=Lib.hid (HTAB.out.ext hxx)
   replace K0:=Lib.hid (K0.out.ext hxx)
   replace HC:=Lib.hid (HC.out.ext hxx)
   replace HP:=Lib.hid (HP.out.ext hxx)
   have HU:=Lib.hid (hu)
   clear hx hxx
   clear hu
   go_wp2_with fail
   refine (lSingle _ _ t HE.out HU.out).mono ?_
   rintro e w8 ⟨xs,rfl,hc,hx⟩
   have hxx:Ext w7 w8:=hx
   replace HX:=Lib.hid (HX.out.trans hxx)
   replace HT:=Lib.hid (HT.out.ext hxx)
   replace c0:=hxx.cell c0
   replace c1:=hxx.cell c1
   replace c2:=hxx.cell c2
   replace HTAB:=Lib.hid (HTAB.out.ext hxx)
   replace K0:=Lib.hid (K0.out.ext hxx)
   replace HC:=Lib.hid (HC.out.ext hxx)
   replace HP:=Lib.hid (HP.out.ext hxx)
   replace HU:=Lib.hid (HU.out.ext hxx)
   have HS:=Lib.hid (hc)
   clear hx hxx
   clear hc
   clear HU
   have HCF:=Lib.hid (lfacts HSZ.out false)
   have HPF:=Lib.hid (lfacts HSZ.out true)
   have HCW:=Lib.hid (cc_whole HE.out HSZ.out)
   have HCL:=Lib.hid (fun k (hk:k < (t.sets false).length)=>cc_less HE.out HSZ.out hk)
   have HPL:=Lib.hid (fun k (hk:k < (t.sets true).length)=>cc_fewer HE.out HSZ.out hk)
   have HONE:=Lib.hid (fun x (hx:x ∈ t.sets false) (h1:x.length = 1)=>single_has HV.out hx h1)
   have HSHARE:=Lib.hid (fun x y (hx:x ∈ t.sets false) (hy:y ∈ t.sets true)=>cut_path_any (t:=t) HV.out.size hx hy)
   have HCOUNT:Hid (onesTo (t.sets false) (t.sets false).length = t.single.length):=by exact (by unfold onesTo; rw [List.take_length]; exact ones_count HV.out:onesTo (t.sets false) (t.sets false).length = t.single.length)
   have HCUT:=Lib.hid (fun s (h:s < 2 ^ t.size)=>cuts_fail (t:=t) HV.out.size h)
   have HFREE:=Lib.hid (fun s (h:s < 2 ^ t.size)=>paths_free (t:=t) HV.out.size h)
   have hc1:1 ≤ (t.sets false).length:=by have:=cuts_some HV.out; cases h:t.sets false with | nil=>exact absurd h this | cons _ _=>simp
   have hp1:1 ≤ (t.sets true).length:=by have:=paths_some HV.out; cases h:t.sets true with | nil=>exact absurd h this | cons _ _=>simp
   have hs7:t.single.length ≤ 7:=Nat.le_trans (single_len HV.out.size) HSZ.out
   obtain ⟨C,hC⟩:∃ C,t.sets false = C:=⟨_,rfl⟩
   obtain ⟨P,hP⟩:∃ C,t.sets true = C:=⟨_,rfl⟩
   obtain ⟨S,hS⟩:∃ C,t.single = C:=⟨_,rfl⟩
   rw [hC] at HC HCF HCW HCL HPL HONE HSHARE HCOUNT HCUT hc1
   rw [hP] at HP HPF HCW HCL HPL HSHARE HFREE hp1
   rw [hS] at HS HONE HCOUNT hs7
   clear hC hP hS
   have hc35:=HCF.out.le
   have hp35:=HPF.out.le
   obtain ⟨Ac,capc,rfl,_,hcapc,_⟩:=HC.out.opened
   obtain ⟨Ap,capp,rfl,_,hcapp,_⟩:=HP.out.opened
   obtain ⟨As,caps,rfl,_,_,_⟩:=HS.out.opened
   have f1:((C.length:Int) == 0) = false:=by rw [beq_eq_false_iff_ne]; omega
   have f2:((P.length:Int) == 0) = false:=by rw [beq_eq_false_iff_ne]; omega
   have f3:¬ 35 < C.length:=by omega
   have f4:¬ 35 < P.length:=by omega
   have f5:¬ 7 < S.length:=by omega
   go_wp2_with (refine wpList_val rfl (v:=.agg #[.slice Ac C.length capc,.slice Ap P.length capp]) (run_build_llop _ _ rfl rfl rfl) ?_)
   clear f1 f2 f3 f4 f5
   have HXB1:=Lib.hid HX.out
   clear HX
   go_loopw [102] (fun i wr=>∃ k:Nat,k ≤ 2 ∧ i = .int .i64 k ∧ Ext w8 wr) (fun i _=>2 - (intOf i).toNat)
   case atStart=>exact ⟨0,by omega,rfl,Ext.refl _⟩
   case round =>
    obtain ⟨k,hk,rfl,hx⟩:=hrel
    obtain ⟨w9,rfl⟩:∃ X,X = wr:=⟨_,rfl⟩
    have HX:=Lib.hid hx
    replace HT:=Lib.hid (HT.out.ext hx)
    replace HTAB:=Lib.hid (HTAB.out.ext hx)
    replace K0:=Lib.hid (K0.out.ext hx)
    replace HC:=Lib.hid (HC.out.ext hx)
    replace HP:=Lib.hid (HP.out.ext hx)
    replace HS:=Lib.hid (HS.out.ext hx)
    replace c0:=hx.cell c0
    replace c1:=hx.cell c1
    replace c2:=hx.cell c2
    clear hx
    by_cases hlt:k < 2
    · obtain ⟨L,A1,cap1,hsel,hL,hfa⟩:∃ (L:List (List Int)) (A1:Option Addr) (cap1:Nat),(if k = 0 then Value.slice Ac C.length capc else .slice Ap P.length capp) = .slice A1 L.length cap1 ∧ IsIntss w9 (.slice A1 L.length cap1) L ∧ LFacts t L:=by
       by_cases h:k = 0
       · rw [if_pos h]; exact ⟨C,Ac,capc,rfl,HC.out,HCF.out⟩
       · rw [if_neg h]; exact ⟨P,Ap,capp,rfl,HP.out,HPF.out⟩
      have HSEL:=Lib.hid hsel
      have HL:=Lib.hid hL
      have HLF:=Lib.hid hfa
      have hL35:=hfa.le
      clear hsel hL hfa
      go_wp2_with (refine wpList_val rfl (v:=.slice A1 L.length cap1) (run_index_llop _ _ rfl hlt HSEL.out rfl rfl) ?_)
      have HXB2:=Lib.hid HX.out
      clear HX
      go_loopw [107] (fun i wr=>∃ j:Nat,j ≤ L.length ∧ i = .int .i64 j ∧ Ext w9 wr) (fun i _=>L.length - (intOf i).toNat)
      case atStart=>exact ⟨0,Nat.zero_le _,rfl,Ext.refl _⟩
      case round =>
       obtain ⟨j,hj,rfl,hx⟩:=hrel
       obtain ⟨w10,rfl⟩:∃ X,X = wr:=⟨_,rfl⟩
       have HX:=Lib.hid hx
       replace HT:=Lib.hid (HT.out.ext hx)
       replace HTAB:=Lib.hid (HTAB.out.ext hx)
       replace K0:=Lib.hid (K0.out.ext hx)
       replace HC:=Lib.hid (HC.out.ext hx)
       replace HP:=Lib.hid (HP.out.ext hx)
       replace HS:=Lib.hid (HS.out.ext hx)
       replace HL:=Lib.hid (HL.out.ext hx)
       replace c0:=hx.cell c0
       replace c1:=hx.cell c1
       replace c2:=hx.cell c2
       clear hx
       by_cases hlj:j < L.length
       · obtain ⟨_,_,he0,_,_,hcc⟩:=HL.out.opened
         cases he0
         obtain ⟨b1,off1,m1,rfl,_,hc1',hm1⟩:=hcc j hlj
         obtain ⟨x,hx0⟩:∃ x,L.getD j [] = x:=⟨_,rfl⟩
         have he1:=HLF.out.each j hlj
         rw [hx0] at hm1 he1
         have HXJ:=Lib.hid hx0
         have HM:=Lib.hid hm1
         have HSE:=Lib.hid he1.2
         obtain ⟨A2,cap2,rfl,_,_,_⟩:=hm1.opened
         have hx7:¬ 7 < x.length:=by omega
         have hjI:(j:Int) < L.length:=by omega
         clear hcc hm1 hx0 he1
         go_wp2_with fail
         refine (lCheckSet _ _ _ t x HSE.out ⟨_,_,_,rfl,HT.out⟩ HM.out).mono ?_
         rintro e w11 ⟨rfl,hx⟩
         have hxx:Ext w10 w11:=hx
         replace HX:=Lib.hid (HX.out.trans hxx)
         replace HT:=Lib.hid (HT.out.ext hxx)
         replace c0:=hxx.cell c0
         replace c1:=hxx.cell c1
         replace c2:=hxx.cell c2
         replace HTAB:=Lib.hid (HTAB.out.ext hxx)
         replace K0:=Lib.hid (K0.out.ext hxx)
         replace HC:=Lib.hid (HC.out.ext hxx)
         replace HP:=Lib.hid (HP.out.ext hxx)
         replace HS:=Lib.hid (HS.out.ext hxx)
         replace HL:=Lib.hid (HL.out.ext hxx)
         replace HM:=Lib.hid (HM.out.ext hxx)
         clear hx hxx
         clear hc1'
         go_wp2
         have HXB3:=Lib.hid HX.out
         clear HX
         go_loopw [123] (fun i wr=>∃ m:Nat,m ≤ L.length ∧ i = .int .i64 m ∧ Ext w11 wr) (fun i _=>L.length - (intOf i).toNat)
         case atStart=>exact ⟨0,Nat.zero_le _,rfl,Ext.refl _⟩
         case round =>
          obtain ⟨m,hm,rfl,hx⟩:=hrel
          obtain ⟨w12,rfl⟩:∃ X,X = wr:=⟨_,rfl⟩
          have HX:=Lib.hid hx
          replace HT:=Lib.hid (HT.out.ext hx)
          replace HTAB:=Lib.hid (HTAB.out.ext hx)
          replace K0:=Lib.hid (K0.out.ext hx)
          replace HC:=Lib.hid (HC.out.ext hx)
          replace HP:=Lib.hid (HP.out.ext hx)
          replace HS:=Lib.hid (HS.out.ext hx)
          replace HL:=Lib.hid (HL.out.ext hx)
          replace HM:=Lib.hid (HM.out.ext hx)
          replace c0:=hx.cell c0
          replace c1:=hx.cell c1
          replace c2:=hx.cell c2
          clear hx
          by_cases hlm:m < L.length
          · obtain ⟨_,_,he0,_,_,hcc⟩:=HL.out.opened
            cases he0
            obtain ⟨b3,off3,m3,hb3,_,hc3,hm3⟩:=hcc m hlm
            obtain ⟨rfl,rfl⟩:b1 = b3 ∧ off1 = off3:=by injection hb3 with h; injection h with h1 h2; exact ⟨h1,h2⟩
            obtain ⟨y,hy0⟩:∃ y,L.getD m [] = y:=⟨_,rfl⟩
            have HAP:Hid (m ≠ j → withinB y x = false):=by exact (fun h=>by rw [← hy0,← HXJ.out]; exact HLF.out.apart j m hlj hlm h:m ≠ j → withinB y x = false)
            rw [hy0] at hm3
            have HM3:=Lib.hid hm3
            obtain ⟨A4,cap4,rfl,_,_,_⟩:=hm3.opened
            have hmI:(m:Int) < L.length:=by omega
            clear hcc hb3 hm3 hy0
            by_cases hmj:m = j
            · have hne:((m:Int) != (j:Int)) = false:=by simp [hmj]
              clear hmj
              go_wp2
              go_roundw
              case rel=>exact ⟨m + 1,by omega,by go_num,HX.out⟩
              case measure=>simp [intOf]; omega
            · have hne:((m:Int) != (j:Int)) = true:=by simp; omega
              go_wp2_with fail
              refine (lWithin _ _ _ y x false (HAP.out hmj) HM3.out HM.out).mono ?_
              rintro e w13 ⟨rfl,hx⟩
              have hxx:Ext w12 w13:=hx
              replace HX:=Lib.hid (HX.out.trans hxx)
              replace HT:=Lib.hid (HT.out.ext hxx)
              replace c0:=hxx.cell c0
              replace c1:=hxx.cell c1
              replace c2:=hxx.cell c2
              replace HTAB:=Lib.hid (HTAB.out.ext hxx)
              replace K0:=Lib.hid (K0.out.ext hxx)
              replace HC:=Lib.hid (HC.out.ext hxx)
              replace HP:=Lib.hid (HP.out.ext hxx)
              replace HS:=Lib.hid (HS.out.ext hxx)
              replace HL:=Lib.hid (HL.out.ext hxx)
              replace HM:=Lib.hid (HM.out.ext hxx)
              clear hx hxx
              go_wp2
              go_roundw
              case rel=>exact ⟨m + 1,by omega,by go_num,HX.out⟩
              case measure=>simp [intOf]; omega
          · clear c0 c1 c2
            replace HX:=Lib.hid (HXB3.out.trans HX.out)
            clear HXB3
            go_wp2
            go_roundw
            case rel=>exact ⟨j + 1,by omega,by go_num,HX.out⟩
            case measure=>simp [intOf]; omega
       · clear c0 c1 c2
         replace HX:=Lib.hid (HXB2.out.trans HX.out)
         clear HXB2
         go_wp2
         go_roundw
         case rel=>exact ⟨k + 1,by omega,by go_num,HX.out⟩
         case measure=>simp [intOf]; omega
    · go_wp2
      replace HX:=Lib.hid (HXB1.out.trans HX.out)
      clear HXB1
      have HXB2:=Lib.hid HX.out
      clear HX
      go_loopw [17,141] (fun o i wr=>∃ k:Nat,k ≤ C.length ∧ o = .int .i64 (onesTo C k) ∧ i = .int .i64 k ∧ Ext w9 wr) (fun _ i _=>C.length - (intOf i).toNat)
      case atStart=>exact ⟨0,Nat.zero_le _,rfl,rfl,Ext.refl _⟩
      case round =>
       obtain ⟨k,hk,rfl,rfl,hx⟩:=hrel
       obtain ⟨w10,rfl⟩:∃ X,X = wr:=⟨_,rfl⟩
       have HX:=Lib.hid hx
       replace HT:=Lib.hid (HT.out.ext hx)
       replace HTAB:=Lib.hid (HTAB.out.ext hx)
       replace K0:=Lib.hid (K0.out.ext hx)
       replace HC:=Lib.hid (HC.out.ext hx)
       replace HP:=Lib.hid (HP.out.ext hx)
       replace HS:=Lib.hid (HS.out.ext hx)
       replace c0:=hx.cell c0
       replace c1:=hx.cell c1
       replace c2:=hx.cell c2
       clear hx
       by_cases hlk:k < C.length
       · obtain ⟨_,_,he0,_,_,hcc⟩:=HC.out.opened
         cases he0
         obtain ⟨b1,off1,m1,rfl,_,hc1',hm1⟩:=hcc k hlk
         obtain ⟨x,hx0⟩:∃ x,C.getD k [] = x:=⟨_,rfl⟩
         have hxm:x ∈ C:=by rw [← hx0,getD_of _ hlk]; exact List.getElem_mem hlk
         have hst:=ones_step hlk
         have hle:=ones_le C k
         obtain ⟨o1,ho1⟩:∃ o1,onesTo C k = o1:=⟨_,rfl⟩
         rw [hx0,ho1] at hst
         rw [hx0] at hm1
         rw [ho1] at hle ⊢
         have HM:=Lib.hid hm1
         have HST:=Lib.hid hst
         have HXM:=Lib.hid hxm
         have HON:=Lib.hid (fun h1=>HONE.out x hxm h1)
         have HSH:=Lib.hid (fun y hy=>HSHARE.out x y hxm hy)
         obtain ⟨A2,cap2,rfl,_,_,hcell⟩:=hm1.opened
         have hkI:(k:Int) < C.length:=by omega
         clear hcc hm1 hx0 hxm hst ho1
         by_cases h1:x.length = 1
         · have he1:((x.length:Int) == 1) = true:=by simp [h1]
           rw [if_pos h1] at HST
           have HO1:=Lib.hid (HON.out h1)
           obtain ⟨b2,off2,rfl,hcx⟩:=hcell 0 (by omega)
           have hx1:0 < x.length:=by omega
           have hx1I:(0:Int) < x.length:=by omega
           obtain ⟨z,hz⟩:∃ z,ix x 0 = z:=⟨_,rfl⟩
           rw [hz] at hcx HO1
           rw [Nat.add_zero] at hcx
           clear hcell hz h1
           go_wp2_with fail
           refine (lHas _ _ S z true HO1.out HS.out).mono ?_
           rintro e w11 ⟨rfl,hx⟩
           have hxx:Ext w10 w11:=hx
           replace HX:=Lib.hid (HX.out.trans hxx)
           replace HT:=Lib.hid (HT.out.ext hxx)
           replace c0:=hxx.cell c0
           replace c1:=hxx.cell c1
           replace c2:=hxx.cell c2
           replace HTAB:=Lib.hid (HTAB.out.ext hxx)
           replace K0:=Lib.hid (K0.out.ext hxx)
           replace HC:=Lib.hid (HC.out.ext hxx)
           replace HP:=Lib.hid (HP.out.ext hxx)
           replace HS:=Lib.hid (HS.out.ext hxx)
           replace HM:=Lib.hid (HM.out.ext hxx)
           clear hx hxx
           clear hc1' hcx he1
           go_wp2
           have HXB3:=Lib.hid HX.out
           clear HX
           go_loopw [158] (fun i wr=>∃ j:Nat,j ≤ P.length ∧ i = .int .i64 j ∧ Ext w11 wr) (fun i _=>P.length - (intOf i).toNat)
           case atStart=>exact ⟨0,Nat.zero_le _,rfl,Ext.refl _⟩
           case round =>
            obtain ⟨j,hj,rfl,hx⟩:=hrel
            obtain ⟨w12,rfl⟩:∃ X,X = wr:=⟨_,rfl⟩
            have HX:=Lib.hid hx
            replace HT:=Lib.hid (HT.out.ext hx)
            replace HTAB:=Lib.hid (HTAB.out.ext hx)
            replace K0:=Lib.hid (K0.out.ext hx)
            replace HC:=Lib.hid (HC.out.ext hx)
            replace HP:=Lib.hid (HP.out.ext hx)
            replace HS:=Lib.hid (HS.out.ext hx)
            replace HM:=Lib.hid (HM.out.ext hx)
            replace c0:=hx.cell c0
            replace c1:=hx.cell c1
            replace c2:=hx.cell c2
            clear hx
            by_cases hlj:j < P.length
            · obtain ⟨_,_,he0,_,_,hcc⟩:=HP.out.opened
              cases he0
              obtain ⟨b3,off3,m3,rfl,_,hc3,hm3⟩:=hcc j hlj
              obtain ⟨y,hy0⟩:∃ y,P.getD j [] = y:=⟨_,rfl⟩
              have hym:y ∈ P:=by rw [← hy0,getD_of _ hlj]; exact List.getElem_mem hlj
              rw [hy0] at hm3
              have HM3:=Lib.hid hm3
              have HSY:=Lib.hid (HSH.out y hym)
              obtain ⟨A4,cap4,rfl,_,_,_⟩:=hm3.opened
              have hjI:(j:Int) < P.length:=by omega
              clear hcc hm3 hy0 hym
              go_wp2
              have HXB4:=Lib.hid HX.out
              clear HX
              go_loopw [22,164] (fun o i wr=>∃ (m:Nat) (q:Bool),m ≤ x.length ∧ o = .bool q ∧ i = .int .i64 m ∧ (q || (x.drop m).any fun k=>has y k) = true ∧ Ext w12 wr) (fun _ i _=>x.length - (intOf i).toNat)
              case atStart=>exact ⟨0,false,Nat.zero_le _,rfl,rfl,by rw [← HSY.out]; rfl,Ext.refl _⟩
              case round =>
               obtain ⟨m,q,hm,rfl,rfl,hq,hx⟩:=hrel
               obtain ⟨w13,rfl⟩:∃ X,X = wr:=⟨_,rfl⟩
               have HX:=Lib.hid hx
               replace HT:=Lib.hid (HT.out.ext hx)
               replace HTAB:=Lib.hid (HTAB.out.ext hx)
               replace K0:=Lib.hid (K0.out.ext hx)
               replace HC:=Lib.hid (HC.out.ext hx)
               replace HP:=Lib.hid (HP.out.ext hx)
               replace HS:=Lib.hid (HS.out.ext hx)
               replace HM:=Lib.hid (HM.out.ext hx)
               replace HM3:=Lib.hid (HM3.out.ext hx)
               replace c0:=hx.cell c0
               replace c1:=hx.cell c1
               replace c2:=hx.cell c2
               clear hx
               have HQ:=Lib.hid hq
               clear hq
               by_cases hlm:m < x.length
               · obtain ⟨_,_,he0,_,_,hcx⟩:=HM.out.opened
                 cases he0
                 obtain ⟨b5,off5,hb5,hc5⟩:=hcx m hlm
                 cases hb5
                 have HAD:Hid ((x.drop m).any (fun k=>has y k) = (has y (ix x m) || (x.drop (m + 1)).any fun k=>has y k)):=by exact (by rw [drop_ix hlm]; rfl:(x.drop m).any (fun k=>has y k) = (has y (ix x m) || (x.drop (m + 1)).any fun k=>has y k))
                 clear hcx
                 have hmI:(m:Int) < x.length:=by omega
                 cases q with
                 | true =>
                   go_wp2
                   go_roundw
                   case rel=>exact ⟨m + 1,true,by omega,rfl,by go_num,by rfl,HX.out⟩
                   case measure=>simp [intOf]; omega
                 | false =>
                   obtain ⟨z,hz⟩:∃ z,ix x m = z:=⟨_,rfl⟩
                   rw [hz] at hc5 HAD
                   clear hz
                   obtain ⟨q2,hq2⟩:∃ q,has y z = q:=⟨_,rfl⟩
                   rw [hq2] at HAD
                   have HQ2:=Lib.hid hq2
                   clear hq2
                   go_wp2_with fail
                   refine (lHas _ _ y z q2 HQ2.out HM3.out).mono ?_
                   rintro e w14 ⟨rfl,hx⟩
                   have hxx:Ext w13 w14:=hx
                   replace HX:=Lib.hid (HX.out.trans hxx)
                   replace HT:=Lib.hid (HT.out.ext hxx)
                   replace c0:=hxx.cell c0
                   replace c1:=hxx.cell c1
                   replace c2:=hxx.cell c2
                   replace HTAB:=Lib.hid (HTAB.out.ext hxx)
                   replace K0:=Lib.hid (K0.out.ext hxx)
                   replace HC:=Lib.hid (HC.out.ext hxx)
                   replace HP:=Lib.hid (HP.out.ext hxx)
                   replace HS:=Lib.hid (HS.out.ext hxx)
                   replace HM:=Lib.hid (HM.out.ext hxx)
                   replace HM3:=Lib.hid (HM3.out.ext hxx)
                   clear hx hxx
                   go_wp2
                   go_roundw
                   case rel=>exact ⟨m + 1,q2,by omega,rfl,by go_num,by rw [← HQ.out,HAD.out]; rfl,HX.out⟩
                   case measure=>simp [intOf]; omega
               · have hqt:q = true:=by
                  have:=HQ.out
                  rw [List.drop_eq_nil_of_le (by omega)] at this
                  simpa using this
                 subst hqt
                 replace HX:=Lib.hid (HXB4.out.trans HX.out)
                 clear HXB4
                 go_wp2
                 go_roundw
                 case rel=>exact ⟨j + 1,by omega,by go_num,HX.out⟩
                 case measure=>simp [intOf]; omega
            · skip
              replace HX:=Lib.hid (HXB3.out.trans HX.out)
              clear HXB3
              go_wp2
              go_roundw
              case rel=>exact ⟨k + 1,by omega,by rw [HST.out]; rfl,by go_num,HX.out⟩
              case measure=>simp [intOf]; omega
         · have he1:((x.length:Int) == 1) = false:=by simp; omega
           rw [if_neg h1,Nat.add_zero] at HST
           clear hcell h1
           go_wp2
           clear hc1' he1
           have HXB3:=Lib.hid HX.out
           clear HX
           go_loopw [158] (fun i wr=>∃ j:Nat,j ≤ P.length ∧ i = .int .i64 j ∧ Ext w10 wr) (fun i _=>P.length - (intOf i).toNat)
           case atStart=>exact ⟨0,Nat.zero_le _,rfl,Ext.refl _⟩
           case round =>
            obtain ⟨j,hj,rfl,hx⟩:=hrel
            obtain ⟨w11,rfl⟩:∃ X,X = wr:=⟨_,rfl⟩
            have HX:=Lib.hid hx
            replace HT:=Lib.hid (HT.out.ext hx)
            replace HTAB:=Lib.hid (HTAB.out.ext hx)
            replace K0:=Lib.hid (K0.out.ext hx)
            replace HC:=Lib.hid (HC.out.ext hx)
            replace HP:=Lib.hid (HP.out.ext hx)
            replace HS:=Lib.hid (HS.out.ext hx)
            replace HM:=Lib.hid (HM.out.ext hx)
            replace c0:=hx.cell c0
            replace c1:=hx.cell c1
            replace c2:=hx.cell c2
            clear hx
            by_cases hlj:j < P.length
            · obtain ⟨_,_,he0,_,_,hcc⟩:=HP.out.opened
              cases he0
              obtain ⟨b3,off3,m3,rfl,_,hc3,hm3⟩:=hcc j hlj
              obtain ⟨y,hy0⟩:∃ y,P.getD j [] = y:=⟨_,rfl⟩
              have hym:y ∈ P:=by rw [← hy0,getD_of _ hlj]; exact List.getElem_mem hlj
              rw [hy0] at hm3
              have HM3:=Lib.hid hm3
              have HSY:=Lib.hid (HSH.out y hym)
              obtain ⟨A4,cap4,rfl,_,_,_⟩:=hm3.opened
              have hjI:(j:Int) < P.length:=by omega
              clear hcc hm3 hy0 hym
              go_wp2
              have HXB4:=Lib.hid HX.out
              clear HX
              go_loopw [22,164] (fun o i wr=>∃ (m:Nat) (q:Bool),m ≤ x.length ∧ o = .bool q ∧ i = .int .i64 m ∧ (q || (x.drop m).any fun k=>has y k) = true ∧ Ext w11 wr) (fun _ i _=>x.length - (intOf i).toNat)
              case atStart=>exact ⟨0,false,Nat.zero_le _,rfl,rfl,by rw [← HSY.out]; rfl,Ext.refl _⟩
              case round =>
               obtain ⟨m,q,hm,rfl,rfl,hq,hx⟩:=hrel
               obtain ⟨w12,rfl⟩:∃ X,X = wr:=⟨_,rfl⟩
               have HX:=Lib.hid hx
               replace HT:=Lib.hid (HT.out.ext hx)
               replace HTAB:=Lib.hid (HTAB.out.ext hx)
               replace K0:=Lib.hid (K0.out.ext hx)
               replace HC:=Lib.hid (HC.out.ext hx)
               replace HP:=Lib.hid (HP.out.ext hx)
               replace HS:=Lib.hid (HS.out.ext hx)
               replace HM:=Lib.hid (HM.out.ext hx)
               replace HM3:=Lib.hid (HM3.out.ext hx)
               replace c0:=hx.cell c0
               replace c1:=hx.cell c1
               replace c2:=hx.cell c2
               clear hx
               have HQ:=Lib.hid hq
               clear hq
               by_cases hlm:m < x.length
               · obtain ⟨_,_,he0,_,_,hcx⟩:=HM.out.opened
                 cases he0
                 obtain ⟨b5,off5,hb5,hc5⟩:=hcx m hlm
                 cases hb5
                 have HAD:Hid ((x.drop m).any (fun k=>has y k) = (has y (ix x m) || (x.drop (m + 1)).any fun k=>has y k)):=by exact (by rw [drop_ix hlm]; rfl:(x.drop m).any (fun k=>has y k) = (has y (ix x m) || (x.drop (m + 1)).any fun k=>has y k))
                 clear hcx
                 have hmI:(m:Int) < x.length:=by omega
                 cases q with
                 | true =>
                   go_wp2
                   go_roundw
                   case rel=>exact ⟨m + 1,true,by omega,rfl,by go_num,by rfl,HX.out⟩
                   case measure=>simp [intOf]; omega
                 | false =>
                   obtain ⟨z,hz⟩:∃ z,ix x m = z:=⟨_,rfl⟩
                   rw [hz] at hc5 HAD
                   clear hz
                   obtain ⟨q2,hq2⟩:∃ q,has y z = q:=⟨_,rfl⟩
                   rw [hq2] at HAD
                   have HQ2:=Lib.hid hq2
                   clear hq2
                   go_wp2_with fail
                   refine (lHas _ _ y z q2 HQ2.out HM3.out).mono ?_
                   rintro e w13 ⟨rfl,hx⟩
                   have hxx:Ext w12 w13:=hx
                   replace HX:=Lib.hid (HX.out.trans hxx)
                   replace HT:=Lib.hid (HT.out.ext hxx)
                   replace c0:=hxx.cell c0
                   replace c1:=hxx.cell c1
                   replace c2:=hxx.cell c2
                   replace HTAB:=Lib.hid (HTAB.out.ext hxx)
                   replace K0:=Lib.hid (K0.out.ext hxx)
                   replace HC:=Lib.hid (HC.out.ext hxx)
                   replace HP:=Lib.hid (HP.out.ext hxx)
                   replace HS:=Lib.hid (HS.out.ext hxx)
                   replace HM:=Lib.hid (HM.out.ext hxx)
                   replace HM3:=Lib.hid (HM3.out.ext hxx)
                   clear hx hxx
                   go_wp2
                   go_roundw
                   case rel=>exact ⟨m + 1,q2,by omega,rfl,by go_num,by rw [← HQ.out,HAD.out]; rfl,HX.out⟩
                   case measure=>simp [intOf]; omega
               · have hqt:q = true:=by
                  have:=HQ.out
                  rw [List.drop_eq_nil_of_le (by omega)] at this
                  simpa using this
                 subst hqt
                 replace HX:=Lib.hid (HXB4.out.trans HX.out)
                 clear HXB4
                 go_wp2
                 go_roundw
                 case rel=>exact ⟨j + 1,by omega,by go_num,HX.out⟩
                 case measure=>simp [intOf]; omega
            · skip
              replace HX:=Lib.hid (HXB3.out.trans HX.out)
              clear HXB3
              go_wp2
              go_roundw
              case rel=>exact ⟨k + 1,by omega,by rw [HST.out]; rfl,by go_num,HX.out⟩
              case measure=>simp [intOf]; omega
       · have hkn:k = C.length:=by omega
         replace HX:=Lib.hid (HXB2.out.trans HX.out)
         clear HXB2
         subst hkn
         rw [HCOUNT.out]
         have hss:((S.length:Int) != (S.length:Int)) = false:=by simp
         go_wp2_with fail
         refine (Size_any _ _ t ⟨_,_,_,rfl,HT.out⟩).mono ?_
         rintro e w11 ⟨rfl,hx⟩
         have hxx:Ext w10 w11:=hx
         replace HX:=Lib.hid (HX.out.trans hxx)
         replace HT:=Lib.hid (HT.out.ext hxx)
         replace c0:=hxx.cell c0
         replace c1:=hxx.cell c1
         replace c2:=hxx.cell c2
         replace HTAB:=Lib.hid (HTAB.out.ext hxx)
         replace K0:=Lib.hid (K0.out.ext hxx)
         replace HC:=Lib.hid (HC.out.ext hxx)
         replace HP:=Lib.hid (HP.out.ext hxx)
         replace HS:=Lib.hid (HS.out.ext hxx)
         clear hx hxx
         obtain ⟨sz,hsz⟩:∃ x,t.size = x:=⟨_,rfl⟩
         rw [hsz]
         have HSE:=Lib.hid hsz
         have hs7':sz ≤ 7:=by rw [← hsz]; exact HSZ.out
         have hp7:=shl1 sz hs7'
         have hp0:=Nat.two_pow_pos sz
         obtain ⟨N,hN⟩:∃ N,2 ^ sz = N:=⟨_,rfl⟩
         have HN:Hid (2 ^ t.size = N):=by exact (by rw [hsz,hN]:2 ^ t.size = N)
         have p1:=pow64 (n:=sz) (by omega)
         rw [hN] at hp7 hp0 p1
         clear hsz hN hss
         have p1v:=congrArg (Value.int .i64) p1
         go_wp2
         try simp only [p1]
         clear p1
         have HXB3:=Lib.hid HX.out
         clear HX
         go_loopw [186] (fun i wr=>∃ s:Nat,s ≤ N ∧ i = .int .i64 s ∧ Ext w11 wr) (fun i _=>N - (intOf i).toNat)
         case atStart=>exact ⟨0,Nat.zero_le _,rfl,Ext.refl _⟩
         case round =>
          obtain ⟨s,hs,rfl,hx⟩:=hrel
          obtain ⟨w12,rfl⟩:∃ X,X = wr:=⟨_,rfl⟩
          have HX:=Lib.hid hx
          replace HT:=Lib.hid (HT.out.ext hx)
          replace HTAB:=Lib.hid (HTAB.out.ext hx)
          replace K0:=Lib.hid (K0.out.ext hx)
          replace HC:=Lib.hid (HC.out.ext hx)
          replace HP:=Lib.hid (HP.out.ext hx)
          replace HS:=Lib.hid (HS.out.ext hx)
          replace c0:=hx.cell c0
          replace c1:=hx.cell c1
          replace c2:=hx.cell c2
          clear hx
          by_cases hls:s < N
          · have HS2:Hid (s < 2 ^ t.size):=by exact (by rw [HN.out]; exact hls:s < 2 ^ t.size)
            go_wp2_with fail
            refine (Members_any _ s (by omega)).mono ?_
            rintro e w13 ⟨ul,rfl,hl,hx⟩
            have hxx:Ext w12 w13:=hx
            replace HX:=Lib.hid (HX.out.trans hxx)
            replace HT:=Lib.hid (HT.out.ext hxx)
            replace c0:=hxx.cell c0
            replace c1:=hxx.cell c1
            replace c2:=hxx.cell c2
            replace HTAB:=Lib.hid (HTAB.out.ext hxx)
            replace K0:=Lib.hid (K0.out.ext hxx)
            replace HC:=Lib.hid (HC.out.ext hxx)
            replace HP:=Lib.hid (HP.out.ext hxx)
            replace HS:=Lib.hid (HS.out.ext hxx)
            have HB:=Lib.hid (hl)
            clear hx hxx
            obtain ⟨f,hf⟩:∃ f,t.fails (evL (bitsOf s)) = f:=⟨_,rfl⟩
            have HFF:=Lib.hid hf
            have HCU:=Lib.hid (HCUT.out s HS2.out)
            have HFR:=Lib.hid (HFREE.out s HS2.out)
            have HBL:Hid ((bitsOf s).length ≤ 7):=by exact (Nat.le_trans (bits_len HS2.out) HSZ.out:(bitsOf s).length ≤ 7)
            have HFA:=Lib.hid (fun (w:World) (u v:Value)=>lFails w u v t s f HE.out HS2.out hf)
            rw [hf] at HCU HFR
            obtain ⟨bl,hbl⟩:∃ l,bitsOf s = l:=⟨_,rfl⟩
            rw [hbl] at HB HCU HFR HBL HFA
            have hbl7:=HBL.out
            obtain ⟨Ab,capb2,rfl,_,_,_⟩:=HB.out.opened
            clear hl hf hbl
            go_wp2_with fail
            refine (own_any _ _ t ⟨_,_,_,rfl,HT.out⟩ HF.out).mono ?_
            rintro e w14 ⟨uu,rfl,hu,hx⟩
            have hxx:Ext w13 w14:=hx
            replace HX:=Lib.hid (HX.out.trans hxx)
            replace HT:=Lib.hid (HT.out.ext hxx)
            replace c0:=hxx.cell c0
            replace c1:=hxx.cell c1
            replace c2:=hxx.cell c2
            replace HTAB:=Lib.hid (HTAB.out.ext hxx)
            replace K0:=Lib.hid (K0.out.ext hxx)
            replace HC:=Lib.hid (HC.out.ext hxx)
            replace HP:=Lib.hid (HP.out.ext hxx)
            replace HS:=Lib.hid (HS.out.ext hxx)
            replace HB:=Lib.hid (HB.out.ext hxx)
            have HU:=Lib.hid (hu)
            clear hx hxx
            clear hu
            go_wp2_with fail
            refine (lints_any _ _ bl HB.out (by have:=HBL.out; omega)).mono ?_
            rintro e w15 ⟨vb,rfl,hv,hx⟩
            have hxx:Ext w14 w15:=hx
            replace HX:=Lib.hid (HX.out.trans hxx)
            replace HT:=Lib.hid (HT.out.ext hxx)
            replace c0:=hxx.cell c0
            replace c1:=hxx.cell c1
            replace c2:=hxx.cell c2
            replace HTAB:=Lib.hid (HTAB.out.ext hxx)
            replace K0:=Lib.hid (K0.out.ext hxx)
            replace HC:=Lib.hid (HC.out.ext hxx)
            replace HP:=Lib.hid (HP.out.ext hxx)
            replace HS:=Lib.hid (HS.out.ext hxx)
            replace HB:=Lib.hid (HB.out.ext hxx)
            replace HU:=Lib.hid (HU.out.ext hxx)
            have HVB:=Lib.hid (hv.ints (by have:=HBL.out; omega))
            clear hx hxx
            clear hv
            go_wp2_with fail
            refine (HFA.out _ _ _ HU.out HVB.out).mono ?_
            rintro e w16 ⟨rfl,hx⟩
            have hxx:Ext w15 w16:=hx
            replace HX:=Lib.hid (HX.out.trans hxx)
            replace HT:=Lib.hid (HT.out.ext hxx)
            replace c0:=hxx.cell c0
            replace c1:=hxx.cell c1
            replace c2:=hxx.cell c2
            clear HVB
            replace HTAB:=Lib.hid (HTAB.out.ext hxx)
            replace K0:=Lib.hid (K0.out.ext hxx)
            replace HC:=Lib.hid (HC.out.ext hxx)
            replace HP:=Lib.hid (HP.out.ext hxx)
            replace HS:=Lib.hid (HS.out.ext hxx)
            replace HB:=Lib.hid (HB.out.ext hxx)
            replace HU:=Lib.hid (HU.out.ext hxx)
            clear hx hxx
            clear HU
            go_wp2
            have HXB4:=Lib.hid HX.out
            clear HX
            go_loopw [29,201] (fun o i wr=>∃ (m:Nat) (q:Bool),m ≤ C.length ∧ o = .bool q ∧ i = .int .i64 m ∧ (q || (C.drop m).any fun x=>withinB x bl) = f ∧ Ext w16 wr) (fun _ i _=>C.length - (intOf i).toNat)
            case atStart=>exact ⟨0,false,Nat.zero_le _,rfl,rfl,by rw [← HCU.out]; rfl,Ext.refl _⟩
            case round =>
             obtain ⟨m,q,hm,rfl,rfl,hq,hx⟩:=hrel
             obtain ⟨w17,rfl⟩:∃ X,X = wr:=⟨_,rfl⟩
             have HX:=Lib.hid hx
             replace HT:=Lib.hid (HT.out.ext hx)
             replace HTAB:=Lib.hid (HTAB.out.ext hx)
             replace K0:=Lib.hid (K0.out.ext hx)
             replace HC:=Lib.hid (HC.out.ext hx)
             replace HP:=Lib.hid (HP.out.ext hx)
             replace HS:=Lib.hid (HS.out.ext hx)
             replace HB:=Lib.hid (HB.out.ext hx)
             replace c0:=hx.cell c0
             replace c1:=hx.cell c1
             replace c2:=hx.cell c2
             clear hx
             have HQ:=Lib.hid hq
             clear hq
             by_cases hlm:m < C.length
             · obtain ⟨_,_,he0,_,_,hcc⟩:=HC.out.opened
               cases he0
               obtain ⟨b3,off3,m3,rfl,_,hc3,hm3⟩:=hcc m hlm
               have HAD:Hid ((C.drop m).any (fun x=>withinB x bl) = (withinB (C.getD m []) bl || (C.drop (m + 1)).any fun x=>withinB x bl)):=by exact any_drop hlm
               obtain ⟨y,hy0⟩:∃ y,C.getD m [] = y:=⟨_,rfl⟩
               rw [hy0] at hm3 HAD
               have HM3:=Lib.hid hm3
               obtain ⟨A4,cap4,rfl,_,_,_⟩:=hm3.opened
               have hmI:(m:Int) < C.length:=by omega
               clear hcc hm3 hy0
               cases q with
               | true =>
                 have HQ2:Hid (true = f):=by exact (by rw [← HQ.out]; rfl:true = f)
                 go_wp2
                 go_roundw
                 case rel=>exact ⟨m + 1,true,by omega,rfl,by go_num,by rw [← HQ2.out]; rfl,HX.out⟩
                 case measure=>simp [intOf]; omega
               | false =>
                 obtain ⟨q2,hq2⟩:∃ q,withinB y bl = q:=⟨_,rfl⟩
                 rw [hq2] at HAD
                 have HQ2:=Lib.hid hq2
                 clear hq2
                 go_wp2_with fail
                 refine (lWithin _ _ _ y bl q2 HQ2.out HM3.out HB.out).mono ?_
                 rintro e w18 ⟨rfl,hx⟩
                 have hxx:Ext w17 w18:=hx
                 replace HX:=Lib.hid (HX.out.trans hxx)
                 replace HT:=Lib.hid (HT.out.ext hxx)
                 replace c0:=hxx.cell c0
                 replace c1:=hxx.cell c1
                 replace c2:=hxx.cell c2
                 replace HTAB:=Lib.hid (HTAB.out.ext hxx)
                 replace K0:=Lib.hid (K0.out.ext hxx)
                 replace HC:=Lib.hid (HC.out.ext hxx)
                 replace HP:=Lib.hid (HP.out.ext hxx)
                 replace HS:=Lib.hid (HS.out.ext hxx)
                 replace HB:=Lib.hid (HB.out.ext hxx)
                 replace HM3:=Lib.hid (HM3.out.ext hxx)
                 clear hx hxx
                 go_wp2
                 go_roundw
                 case rel=>exact ⟨m + 1,q2,by omega,rfl,by go_num,by rw [← HQ.out,HAD.out]; rfl,HX.out⟩
                 case measure=>simp [intOf]; omega
             · have hqt:(f) = q:=by
                have:=HQ.out
                rw [List.drop_eq_nil_of_le (by omega)] at this
                rw [← this]; exact Bool.or_false q
               subst hqt
               clear HQ
               replace HX:=Lib.hid (HXB4.out.trans HX.out)
               clear HXB4
               go_wp2
               have HXB5:=Lib.hid HX.out
               clear HX
               go_loopw [30,214] (fun o i wr=>∃ (m:Nat) (q:Bool),m ≤ P.length ∧ o = .bool q ∧ i = .int .i64 m ∧ (q || (P.drop m).any fun x=>withinB x (others t.size bl)) = !f ∧ Ext w17 wr) (fun _ i _=>P.length - (intOf i).toNat)
               case atStart=>exact ⟨0,false,Nat.zero_le _,rfl,rfl,by rw [← HFR.out]; rfl,Ext.refl _⟩
               case round =>
                obtain ⟨m,q,hm,rfl,rfl,hq,hx⟩:=hrel
                obtain ⟨w18,rfl⟩:∃ X,X = wr:=⟨_,rfl⟩
                have HX:=Lib.hid hx
                replace HT:=Lib.hid (HT.out.ext hx)
                replace HTAB:=Lib.hid (HTAB.out.ext hx)
                replace K0:=Lib.hid (K0.out.ext hx)
                replace HC:=Lib.hid (HC.out.ext hx)
                replace HP:=Lib.hid (HP.out.ext hx)
                replace HS:=Lib.hid (HS.out.ext hx)
                replace HB:=Lib.hid (HB.out.ext hx)
                replace c0:=hx.cell c0
                replace c1:=hx.cell c1
                replace c2:=hx.cell c2
                clear hx
                have HQ:=Lib.hid hq
                clear hq
                by_cases hlm:m < P.length
                · obtain ⟨_,_,he0,_,_,hcc⟩:=HP.out.opened
                  cases he0
                  obtain ⟨b3,off3,m3,rfl,_,hc3,hm3⟩:=hcc m hlm
                  have HAD:Hid ((P.drop m).any (fun x=>withinB x (others t.size bl)) = (withinB (P.getD m []) (others t.size bl) || (P.drop (m + 1)).any fun x=>withinB x (others t.size bl))):=by exact any_drop hlm
                  obtain ⟨y,hy0⟩:∃ y,P.getD m [] = y:=⟨_,rfl⟩
                  rw [hy0] at hm3 HAD
                  have HM3:=Lib.hid hm3
                  obtain ⟨A4,cap4,rfl,_,_,_⟩:=hm3.opened
                  have hmI:(m:Int) < P.length:=by omega
                  clear hcc hm3 hy0
                  cases q with
                  | true =>
                    have HQ2:Hid (true = !f):=by exact (by rw [← HQ.out]; rfl:true = !f)
                    go_wp2
                    go_roundw
                    case rel=>exact ⟨m + 1,true,by omega,rfl,by go_num,by rw [← HQ2.out]; rfl,HX.out⟩
                    case measure=>simp [intOf]; omega
                  | false =>
                    obtain ⟨q2,hq2⟩:∃ q,withinB y (others t.size bl) = q:=⟨_,rfl⟩
                    rw [hq2] at HAD
                    have HQ2:=Lib.hid hq2
                    clear hq2
                    go_wp2_with fail
                    refine (lOthers _ _ _ t bl HV.out.size ⟨_,_,_,rfl,HT.out⟩ HB.out).mono ?_
                    rintro e w19 ⟨xo,rfl,ho,hx⟩
                    have hxx:Ext w18 w19:=hx
                    replace HX:=Lib.hid (HX.out.trans hxx)
                    replace HT:=Lib.hid (HT.out.ext hxx)
                    replace c0:=hxx.cell c0
                    replace c1:=hxx.cell c1
                    replace c2:=hxx.cell c2
                    replace HTAB:=Lib.hid (HTAB.out.ext hxx)
                    replace K0:=Lib.hid (K0.out.ext hxx)
                    replace HC:=Lib.hid (HC.out.ext hxx)
                    replace HP:=Lib.hid (HP.out.ext hxx)
                    replace HS:=Lib.hid (HS.out.ext hxx)
                    replace HB:=Lib.hid (HB.out.ext hxx)
                    replace HM3:=Lib.hid (HM3.out.ext hxx)
                    have HO:=Lib.hid (ho)
                    clear hx hxx
                    obtain ⟨Ao,capo,rfl,_,_,_⟩:=ho.opened
                    clear ho
                    go_wp2_with fail
                    refine (lWithin _ _ _ y (others t.size bl) q2 HQ2.out HM3.out HO.out).mono ?_
                    rintro e w20 ⟨rfl,hx⟩
                    have hxx:Ext w19 w20:=hx
                    replace HX:=Lib.hid (HX.out.trans hxx)
                    replace HT:=Lib.hid (HT.out.ext hxx)
                    replace c0:=hxx.cell c0
                    replace c1:=hxx.cell c1
                    replace c2:=hxx.cell c2
                    replace HTAB:=Lib.hid (HTAB.out.ext hxx)
                    replace K0:=Lib.hid (K0.out.ext hxx)
                    replace HC:=Lib.hid (HC.out.ext hxx)
                    replace HP:=Lib.hid (HP.out.ext hxx)
                    replace HS:=Lib.hid (HS.out.ext hxx)
                    replace HB:=Lib.hid (HB.out.ext hxx)
                    replace HM3:=Lib.hid (HM3.out.ext hxx)
                    replace HO:=Lib.hid (HO.out.ext hxx)
                    clear hx hxx
                    go_wp2
                    go_roundw
                    case rel=>exact ⟨m + 1,q2,by omega,rfl,by go_num,by rw [← HQ.out,HAD.out]; rfl,HX.out⟩
                    case measure=>simp [intOf]; omega
                · have hqt:(!f) = q:=by
                   have:=HQ.out
                   rw [List.drop_eq_nil_of_le (by omega)] at this
                   rw [← this]; exact Bool.or_false q
                  subst hqt
                  clear HQ
                  replace HX:=Lib.hid (HXB5.out.trans HX.out)
                  clear HXB5
                  cases f with
                  | true =>
                    go_wp2
                    go_roundw
                    case rel=>exact ⟨s + 1,by omega,by go_num,HX.out⟩
                    case measure=>simp [intOf]; omega
                  | false =>
                    go_wp2
                    go_roundw
                    case rel=>exact ⟨s + 1,by omega,by go_num,HX.out⟩
                    case measure=>simp [intOf]; omega
          · skip
            replace HX:=Lib.hid (HXB3.out.trans HX.out)
            clear HXB3
            go_wp2_with fail
            refine (own_any _ _ t ⟨_,_,_,rfl,HT.out⟩ HF.out).mono ?_
            rintro e w13 ⟨uu,rfl,hu,hx⟩
            have hxx:Ext w12 w13:=hx
            replace HX:=Lib.hid (HX.out.trans hxx)
            replace HT:=Lib.hid (HT.out.ext hxx)
            replace c0:=hxx.cell c0
            replace c1:=hxx.cell c1
            replace c2:=hxx.cell c2
            replace HTAB:=Lib.hid (HTAB.out.ext hxx)
            replace K0:=Lib.hid (K0.out.ext hxx)
            replace HC:=Lib.hid (HC.out.ext hxx)
            replace HP:=Lib.hid (HP.out.ext hxx)
            replace HS:=Lib.hid (HS.out.ext hxx)
            have HU:=Lib.hid (hu)
            clear hx hxx
            clear hu
            go_wp2_with fail
            refine (lists_any _ _ C HC.out (by have:=HCF.out.le; omega) (fun j hj=>by have:=(HCF.out.each j hj).1; omega)).mono ?_
            rintro e w14 ⟨va,rfl,hv,hx⟩
            have hxx:Ext w13 w14:=hx
            replace HX:=Lib.hid (HX.out.trans hxx)
            replace HT:=Lib.hid (HT.out.ext hxx)
            replace c0:=hxx.cell c0
            replace c1:=hxx.cell c1
            replace c2:=hxx.cell c2
            replace HTAB:=Lib.hid (HTAB.out.ext hxx)
            replace K0:=Lib.hid (K0.out.ext hxx)
            replace HC:=Lib.hid (HC.out.ext hxx)
            replace HP:=Lib.hid (HP.out.ext hxx)
            replace HS:=Lib.hid (HS.out.ext hxx)
            replace HU:=Lib.hid (HU.out.ext hxx)
            have HV1:=Lib.hid (hv)
            clear hx hxx
            clear hv
            go_wp2_with fail
            refine (lists_any _ _ P HP.out (by have:=HPF.out.le; omega) (fun j hj=>by have:=(HPF.out.each j hj).1; omega)).mono ?_
            rintro e w15 ⟨vb,rfl,hv,hx⟩
            have hxx:Ext w14 w15:=hx
            replace HX:=Lib.hid (HX.out.trans hxx)
            replace HT:=Lib.hid (HT.out.ext hxx)
            replace c0:=hxx.cell c0
            replace c1:=hxx.cell c1
            replace c2:=hxx.cell c2
            replace HTAB:=Lib.hid (HTAB.out.ext hxx)
            replace K0:=Lib.hid (K0.out.ext hxx)
            replace HC:=Lib.hid (HC.out.ext hxx)
            replace HP:=Lib.hid (HP.out.ext hxx)
            replace HS:=Lib.hid (HS.out.ext hxx)
            replace HU:=Lib.hid (HU.out.ext hxx)
            replace HV1:=Lib.hid (HV1.out.ext hxx)
            have HV2:=Lib.hid (hv)
            clear hx hxx
            clear hv
            go_wp2_with fail
            refine (lCC _ _ _ _ t C P 0 HCW.out HU.out HV1.out HV2.out).mono ?_
            rintro e w16 ⟨rfl,hx⟩
            have hxx:Ext w15 w16:=hx
            replace HX:=Lib.hid (HX.out.trans hxx)
            replace HT:=Lib.hid (HT.out.ext hxx)
            replace c0:=hxx.cell c0
            replace c1:=hxx.cell c1
            replace c2:=hxx.cell c2
            clear HV1 HV2
            replace HTAB:=Lib.hid (HTAB.out.ext hxx)
            replace K0:=Lib.hid (K0.out.ext hxx)
            replace HC:=Lib.hid (HC.out.ext hxx)
            replace HP:=Lib.hid (HP.out.ext hxx)
            replace HS:=Lib.hid (HS.out.ext hxx)
            replace HU:=Lib.hid (HU.out.ext hxx)
            clear hx hxx
            clear HU
            have h14:∀ j,j < C.length → (C.getD j []).length ≤ 14:=fun j hj=>by have:=(HCF.out.each j hj).1; omega
            obtain ⟨K,hK⟩:∃ K,nn % C.length = K:=⟨_,rfl⟩
            have hKl:K < C.length:=by rw [← hK]; exact Nat.mod_lt _ (by omega)
            have hrem:(nn:Int).tmod (C.length:Int) = (K:Int):=by rw [← hK]; exact (Int.ofNat_tmod _ _).symm
            have hcne:¬ C = []:=fun e=>by rw [e] at hKl; exact absurd hKl (Nat.not_lt_zero _)
            have hl35:=HCF.out.le
            have hwk:IntKind.i64.wrap ((K:Int) + 1) = (K:Int) + 1:=wrap_in (by omega) (by omega)
            have g5:¬ (C.length:Int) < (K:Int) + 1:=by omega
            have g6:((K:Int) + 1).toNat = K + 1:=by omega
            have HKL:=Lib.hid hKl
            obtain ⟨_,_,he0,_,_,hcc⟩:=HC.out.opened
            cases he0
            obtain ⟨bA,oA,mA,rfl,_⟩:=hcc 0 (by omega)
            clear hcc
            have g1:¬ capc < K + 1:=by omega
            have g2:¬ C.length < K + 1:=by omega
            have g3:¬ capc < K:=by omega
            have g4:(0:Int) ≤ (K:Int) + 1:=by omega
            have HTK:=Lib.hid (intss_take HC.out (show K ≤ C.length by omega))
            have HDK:=Lib.hid (intss_drop HC.out (show K + 1 ≤ C.length by omega))
            have HST:=Lib.hid (short_take h14 K)
            have HSD:=Lib.hid (short_drop h14 (K + 1))
            have HSL:=Lib.hid (short_less h14 K)
            have hdr:=(Ext.refl w16).drew
            clear c0 c1 c2 h14 hK
            go_wp2
            refine Flow.regionB [.plain,.plain,.plain,.plain,.plain,.plain,.world,.plain,.plain,.plain,.plain,.plain,.plain,.plain,.world,.last,.last] [0,1,2,3,4,5,6,7,8,9,10,11,12,13,14,15,16] [[],[],[],[2],[1,2,3],[0,1,2,3,4],[0,1,2,3,4,5],[],[],[],[9],[8,9,10],[8,9,10,11],[7,8,9,10,11,12],[0,1,2,3,4,5,6,7,8,9,10,11,12,13],[0,1,2,3,4,5,6,7,8,9,10,11,12,13,14],[0,1,2,3,4,5,6,7,8,9,10,11,12,13,14,15]] [15,16]
             [.is 0 (fun v=>.slice (some ⟨bA,oA,none⟩) C.length capc),.is 1 (fun v=>.int .i64 (nn:Int)),.is 2 (fun v=>.slice (some ⟨bA,oA,none⟩) C.length capc),.is 3 (fun v=>.int .i64 ((C.length:Nat):Int)),.is 4 (fun v=>.int .i64 (K:Int)),.is 5 (fun v=>.slice (some ⟨bA,oA,none⟩) K capc),⟨fun v wz=>(fun v w'=>ListsP w16.heap.size w' (v 6) (C.take K)) v wz,fun _ _ _ hx h=>ListsP.ext h hx⟩,.is 7 (fun v=>.slice (some ⟨bA,oA,none⟩) C.length capc),.is 8 (fun v=>.int .i64 (nn:Int)),.is 9 (fun v=>.slice (some ⟨bA,oA,none⟩) C.length capc),.is 10 (fun v=>.int .i64 ((C.length:Nat):Int)),.is 11 (fun v=>.int .i64 (K:Int)),.is 12 (fun v=>.int .i64 ((K:Int) + 1)),.is 13 (fun v=>.slice (if capc = K + 1 then some ⟨bA,oA,none⟩ else some ⟨bA,oA + (K + 1),none⟩) (C.length - (K + 1)) (capc - (K + 1))),⟨fun v wz=>(fun v w'=>ListsP w16.heap.size w' (v 14) (C.drop (K + 1))) v wz,fun _ _ _ hx h=>ListsP.ext h hx⟩,.none,.none]
             [fun v w1 w'=>ListsP w16.heap.size w' (v 15) (C.take K ++ C.drop (K + 1)) ∧ Below w16.heap.size w1 w',fun v w1 w'=>v 16 = v 15 ∧ ListsP w16.heap.size w' (v 15) (C.take K ++ C.drop (K + 1)) ∧ Below w16.heap.size w1 w'] (by kernel_rfl) rfl (by kernel_rfl) ⟨?g0,?g1,?g2,?g3,?g4,?g5,?g6,?g7,?g8,?g9,?g10,?g11,?g12,?g13,?g14,?g15,?g16,trivial⟩ ?post
            case g0 =>
             intro v w1 hx
             intro bb hbb
             subst hbb
             refine ⟨_,fun w=>?_,rfl⟩
             go_simp
            case g1 =>
             intro v w1 hx
             intro bb hbb
             subst hbb
             refine ⟨_,fun w=>?_,rfl⟩
             go_simp
            case g2 =>
             intro v w1 hx
             intro bb hbb
             subst hbb
             refine ⟨_,fun w=>?_,rfl⟩
             go_simp
            case g3 =>
             intro v w1 hx (q2:v 2 = .slice (some ⟨bA,oA,none⟩) C.length capc)
             intro bb hbb
             subst hbb
             refine ⟨_,fun w=>?_,rfl⟩
             go_simp
            case g4 =>
             intro v w1 hx (q1:v 1 = .int .i64 (nn:Int)) (q2:v 2 = .slice (some ⟨bA,oA,none⟩) C.length capc) (q3:v 3 = .int .i64 ((C.length:Nat):Int))
             intro bb hbb
             subst hbb
             refine ⟨_,fun w=>?_,rfl⟩
             go_simp
            case g5 =>
             intro v w1 hx (q0:v 0 = .slice (some ⟨bA,oA,none⟩) C.length capc) (q1:v 1 = .int .i64 (nn:Int)) (q2:v 2 = .slice (some ⟨bA,oA,none⟩) C.length capc) (q3:v 3 = .int .i64 ((C.length:Nat):Int)) (q4:v 4 = .int .i64 (K:Int))
             intro bb hbb
             subst hbb
             refine ⟨_,fun w=>?_,rfl⟩
             go_simp
            case g6 =>
             intro v w1 hx (q0:v 0 = .slice (some ⟨bA,oA,none⟩) C.length capc) (q1:v 1 = .int .i64 (nn:Int)) (q2:v 2 = .slice (some ⟨bA,oA,none⟩) C.length capc) (q3:v 3 = .int .i64 ((C.length:Nat):Int)) (q4:v 4 = .int .i64 (K:Int)) (q5:v 5 = .slice (some ⟨bA,oA,none⟩) K capc)
             intro bb hbb
             subst hbb
             intro K2 hK2
             go_simp
             refine gives_call (lists_ownP w1 _ _ w16.heap.size (HTK.out.ext (hdr.trans hx)) (by rw [List.length_take]; have:=HKL.out; omega) HST.out hx.size) ?_
             rintro e w2 ⟨u,rfl,hown,hx2⟩
             exact ⟨_,rfl,hK2 _ _ hx2 hown⟩
            case g7 =>
             intro v w1 hx
             intro bb hbb
             subst hbb
             refine ⟨_,fun w=>?_,rfl⟩
             go_simp
            case g8 =>
             intro v w1 hx
             intro bb hbb
             subst hbb
             refine ⟨_,fun w=>?_,rfl⟩
             go_simp
            case g9 =>
             intro v w1 hx
             intro bb hbb
             subst hbb
             refine ⟨_,fun w=>?_,rfl⟩
             go_simp
            case g10 =>
             intro v w1 hx (q9:v 9 = .slice (some ⟨bA,oA,none⟩) C.length capc)
             intro bb hbb
             subst hbb
             refine ⟨_,fun w=>?_,rfl⟩
             go_simp
            case g11 =>
             intro v w1 hx (q8:v 8 = .int .i64 (nn:Int)) (q9:v 9 = .slice (some ⟨bA,oA,none⟩) C.length capc) (q10:v 10 = .int .i64 ((C.length:Nat):Int))
             intro bb hbb
             subst hbb
             refine ⟨_,fun w=>?_,rfl⟩
             go_simp
            case g12 =>
             intro v w1 hx (q8:v 8 = .int .i64 (nn:Int)) (q9:v 9 = .slice (some ⟨bA,oA,none⟩) C.length capc) (q10:v 10 = .int .i64 ((C.length:Nat):Int)) (q11:v 11 = .int .i64 (K:Int))
             intro bb hbb
             subst hbb
             refine ⟨_,fun w=>?_,rfl⟩
             go_simp
            case g13 =>
             intro v w1 hx (q7:v 7 = .slice (some ⟨bA,oA,none⟩) C.length capc) (q8:v 8 = .int .i64 (nn:Int)) (q9:v 9 = .slice (some ⟨bA,oA,none⟩) C.length capc) (q10:v 10 = .int .i64 ((C.length:Nat):Int)) (q11:v 11 = .int .i64 (K:Int)) (q12:v 12 = .int .i64 ((K:Int) + 1))
             intro bb hbb
             subst hbb
             refine ⟨_,fun w=>?_,rfl⟩
             go_simp
            case g14 =>
             intro v w1 hx (q0:v 0 = .slice (some ⟨bA,oA,none⟩) C.length capc) (q1:v 1 = .int .i64 (nn:Int)) (q2:v 2 = .slice (some ⟨bA,oA,none⟩) C.length capc) (q3:v 3 = .int .i64 ((C.length:Nat):Int)) (q4:v 4 = .int .i64 (K:Int)) (q5:v 5 = .slice (some ⟨bA,oA,none⟩) K capc) (q6:(fun v w'=>ListsP w16.heap.size w' (v 6) (C.take K)) v w1) (q7:v 7 = .slice (some ⟨bA,oA,none⟩) C.length capc) (q8:v 8 = .int .i64 (nn:Int)) (q9:v 9 = .slice (some ⟨bA,oA,none⟩) C.length capc) (q10:v 10 = .int .i64 ((C.length:Nat):Int)) (q11:v 11 = .int .i64 (K:Int)) (q12:v 12 = .int .i64 ((K:Int) + 1)) (q13:v 13 = .slice (if capc = K + 1 then some ⟨bA,oA,none⟩ else some ⟨bA,oA + (K + 1),none⟩) (C.length - (K + 1)) (capc - (K + 1)))
             intro bb hbb
             subst hbb
             intro K2 hK2
             go_simp
             refine gives_call (lists_ownP w1 _ _ w16.heap.size (HDK.out.ext (hdr.trans hx)) (by rw [List.length_drop]; omega) HSD.out hx.size) ?_
             rintro e w2 ⟨u,rfl,hown,hx2⟩
             exact ⟨_,rfl,hK2 _ _ hx2 hown⟩
            case g15 =>
             intro v w1 hx (q0:v 0 = .slice (some ⟨bA,oA,none⟩) C.length capc) (q1:v 1 = .int .i64 (nn:Int)) (q2:v 2 = .slice (some ⟨bA,oA,none⟩) C.length capc) (q3:v 3 = .int .i64 ((C.length:Nat):Int)) (q4:v 4 = .int .i64 (K:Int)) (q5:v 5 = .slice (some ⟨bA,oA,none⟩) K capc) (q6:(fun v w'=>ListsP w16.heap.size w' (v 6) (C.take K)) v w1) (q7:v 7 = .slice (some ⟨bA,oA,none⟩) C.length capc) (q8:v 8 = .int .i64 (nn:Int)) (q9:v 9 = .slice (some ⟨bA,oA,none⟩) C.length capc) (q10:v 10 = .int .i64 ((C.length:Nat):Int)) (q11:v 11 = .int .i64 (K:Int)) (q12:v 12 = .int .i64 ((K:Int) + 1)) (q13:v 13 = .slice (if capc = K + 1 then some ⟨bA,oA,none⟩ else some ⟨bA,oA + (K + 1),none⟩) (C.length - (K + 1)) (capc - (K + 1))) (q14:(fun v w'=>ListsP w16.heap.size w' (v 14) (C.drop (K + 1))) v w1)
             intro wl hT
             obtain rfl:wl = w1:=hT
             intro bb hbb
             subst hbb
             intro K2 hK2
             exact gives_append_lists _ _ rfl (by go_simp) q6 (by go_simp) q14 (by rw [List.length_take]; have:=HKL.out; omega) (by rw [List.length_drop]; omega) hx.size (fun v' w' h1 h2=>hK2 _ _ ⟨h1,h2⟩)
            case g16 =>
             intro v w1 hx (q0:v 0 = .slice (some ⟨bA,oA,none⟩) C.length capc) (q1:v 1 = .int .i64 (nn:Int)) (q2:v 2 = .slice (some ⟨bA,oA,none⟩) C.length capc) (q3:v 3 = .int .i64 ((C.length:Nat):Int)) (q4:v 4 = .int .i64 (K:Int)) (q5:v 5 = .slice (some ⟨bA,oA,none⟩) K capc) (q6:(fun v w'=>ListsP w16.heap.size w' (v 6) (C.take K)) v w1) (q7:v 7 = .slice (some ⟨bA,oA,none⟩) C.length capc) (q8:v 8 = .int .i64 (nn:Int)) (q9:v 9 = .slice (some ⟨bA,oA,none⟩) C.length capc) (q10:v 10 = .int .i64 ((C.length:Nat):Int)) (q11:v 11 = .int .i64 (K:Int)) (q12:v 12 = .int .i64 ((K:Int) + 1)) (q13:v 13 = .slice (if capc = K + 1 then some ⟨bA,oA,none⟩ else some ⟨bA,oA + (K + 1),none⟩) (C.length - (K + 1)) (capc - (K + 1))) (q14:(fun v w'=>ListsP w16.heap.size w' (v 14) (C.drop (K + 1))) v w1)
             intro wl hT
             replace hT:(fun v w1 w'=>ListsP w16.heap.size w' (v 15) (C.take K ++ C.drop (K + 1)) ∧ Below w16.heap.size w1 w') v w1 wl:=hT
             intro bb hbb
             subst hbb
             intro K2 hK2
             go_simp
             exact hK2 _ _ ⟨rfl,hT⟩
            case post =>
             intro v w1 hx (q0:v 0 = .slice (some ⟨bA,oA,none⟩) C.length capc) (q1:v 1 = .int .i64 (nn:Int)) (q2:v 2 = .slice (some ⟨bA,oA,none⟩) C.length capc) (q3:v 3 = .int .i64 ((C.length:Nat):Int)) (q4:v 4 = .int .i64 (K:Int)) (q5:v 5 = .slice (some ⟨bA,oA,none⟩) K capc) (q6:(fun v w'=>ListsP w16.heap.size w' (v 6) (C.take K)) v w1) (q7:v 7 = .slice (some ⟨bA,oA,none⟩) C.length capc) (q8:v 8 = .int .i64 (nn:Int)) (q9:v 9 = .slice (some ⟨bA,oA,none⟩) C.length capc) (q10:v 10 = .int .i64 ((C.length:Nat):Int)) (q11:v 11 = .int .i64 (K:Int)) (q12:v 12 = .int .i64 ((K:Int) + 1)) (q13:v 13 = .slice (if capc = K + 1 then some ⟨bA,oA,none⟩ else some ⟨bA,oA + (K + 1),none⟩) (C.length - (K + 1)) (capc - (K + 1))) (q14:(fun v w'=>ListsP w16.heap.size w' (v 14) (C.drop (K + 1))) v w1)
             intro w2 hE
             replace hE:(fun v w1 w'=>v 16 = v 15 ∧ ListsP w16.heap.size w' (v 15) (C.take K ++ C.drop (K + 1)) ∧ Below w16.heap.size w1 w') v w1 w2:=hE
             simp only [Flow.acts,Act.put]
             go_simp
             obtain ⟨e1,e2,e3⟩:=hE
             have hxx:Ext w16 w2:=below_ext hx e3
             obtain ⟨bL,cL,hsh⟩:∃ b c,v 15 = .slice b (lessAt C K).length c:=by
              obtain ⟨b,c,h,_⟩:=e2.shape
              exact ⟨b,c,h⟩
             have HL1:Hid (IsIntss w2 (v 15) (lessAt C K)):=by exact (e2.read (show (lessAt C K).length ≤ 2000 by have:=lessAt_len C K; omega) (fun j hj=>Nat.le_trans (HSL.out j hj) (by omega)):IsIntss w2 (v 15) (lessAt C K))
             replace HX:=Lib.hid (HX.out.trans hxx)
             replace HT:=Lib.hid (HT.out.ext hxx)
             replace HTAB:=Lib.hid (HTAB.out.ext hxx)
             replace K0:=Lib.hid (K0.out.ext hxx)
             replace HC:=Lib.hid (HC.out.ext hxx)
             replace HP:=Lib.hid (HP.out.ext hxx)
             replace HS:=Lib.hid (HS.out.ext hxx)
             obtain ⟨nHL1,hnHL1⟩:∃ n,(lessAt C K).length = n:=⟨_,rfl⟩
             rw [hsh] at HL1
             have hHL1:=HKL.out
             try rw [e1]
             rw [hsh]
             generalize (if capc = K + 1 then (some ⟨bA,oA,none⟩:Option Addr) else some ⟨bA,oA + (K + 1),none⟩) = A13
             obtain ⟨w17,rfl⟩:∃ X,X = w2:=⟨_,rfl⟩
             have c0:=K0.out.cell 0
             have c1:=K0.out.cell 1
             have c2:=K0.out.cell 2
             simp only [List.getElem?_toArray,List.getElem?_cons_zero,List.getElem?_cons_succ] at c0 c1 c2
             clear e1 e2 e3 hsh hxx hx hdr g1 g2 g3 g4 g5 g6 hwk hcne hl35 hrem HTK HDK HST HSD HKL hnHL1 hHL1 nHL1 q0 q1 q2 q3 q4 q5 q6 q7 q8 q9 q10 q11 q12 q13 q14
             have HCK:=Lib.hid (HCL.out K hKl)
             obtain ⟨X1,hX1⟩:∃ X,lessAt C K = X:=⟨_,rfl⟩
             rw [hX1] at HL1 HCK ⊢
             clear hX1 hKl HSL
             have h14:∀ j,j < P.length → (P.getD j []).length ≤ 14:=fun j hj=>by have:=(HPF.out.each j hj).1; omega
             obtain ⟨K,hK⟩:∃ K,nn % P.length = K:=⟨_,rfl⟩
             have hKl:K < P.length:=by rw [← hK]; exact Nat.mod_lt _ (by omega)
             have hrem:(nn:Int).tmod (P.length:Int) = (K:Int):=by rw [← hK]; exact (Int.ofNat_tmod _ _).symm
             have hcne:¬ P = []:=fun e=>by rw [e] at hKl; exact absurd hKl (Nat.not_lt_zero _)
             have hl35:=HPF.out.le
             have hwk:IntKind.i64.wrap ((K:Int) + 1) = (K:Int) + 1:=wrap_in (by omega) (by omega)
             have g5:¬ (P.length:Int) < (K:Int) + 1:=by omega
             have g6:((K:Int) + 1).toNat = K + 1:=by omega
             have HKL:=Lib.hid hKl
             obtain ⟨_,_,he0,_,_,hcc⟩:=HP.out.opened
             cases he0
             obtain ⟨bA,oA,mA,rfl,_⟩:=hcc 0 (by omega)
             clear hcc
             have g1:¬ capp < K + 1:=by omega
             have g2:¬ P.length < K + 1:=by omega
             have g3:¬ capp < K:=by omega
             have g4:(0:Int) ≤ (K:Int) + 1:=by omega
             have HTK:=Lib.hid (intss_take HP.out (show K ≤ P.length by omega))
             have HDK:=Lib.hid (intss_drop HP.out (show K + 1 ≤ P.length by omega))
             have HST:=Lib.hid (short_take h14 K)
             have HSD:=Lib.hid (short_drop h14 (K + 1))
             have HSL:=Lib.hid (short_less h14 K)
             have hdr:=(Ext.refl w17).drew
             clear c0 c1 c2 h14 hK
             go_wp2
             refine Flow.regionB [.plain,.plain,.plain,.plain,.plain,.plain,.world,.plain,.plain,.plain,.plain,.plain,.plain,.plain,.world,.last,.last] [0,1,2,3,4,5,6,7,8,9,10,11,12,13,14,15,16] [[],[],[],[2],[1,2,3],[0,1,2,3,4],[0,1,2,3,4,5],[],[],[],[9],[8,9,10],[8,9,10,11],[7,8,9,10,11,12],[0,1,2,3,4,5,6,7,8,9,10,11,12,13],[0,1,2,3,4,5,6,7,8,9,10,11,12,13,14],[0,1,2,3,4,5,6,7,8,9,10,11,12,13,14,15]] [15,16]
              [.is 0 (fun v=>.slice (some ⟨bA,oA,none⟩) P.length capp),.is 1 (fun v=>.int .i64 (nn:Int)),.is 2 (fun v=>.slice (some ⟨bA,oA,none⟩) P.length capp),.is 3 (fun v=>.int .i64 ((P.length:Nat):Int)),.is 4 (fun v=>.int .i64 (K:Int)),.is 5 (fun v=>.slice (some ⟨bA,oA,none⟩) K capp),⟨fun v wz=>(fun v w'=>ListsP w17.heap.size w' (v 6) (P.take K)) v wz,fun _ _ _ hx h=>ListsP.ext h hx⟩,.is 7 (fun v=>.slice (some ⟨bA,oA,none⟩) P.length capp),.is 8 (fun v=>.int .i64 (nn:Int)),.is 9 (fun v=>.slice (some ⟨bA,oA,none⟩) P.length capp),.is 10 (fun v=>.int .i64 ((P.length:Nat):Int)),.is 11 (fun v=>.int .i64 (K:Int)),.is 12 (fun v=>.int .i64 ((K:Int) + 1)),.is 13 (fun v=>.slice (if capp = K + 1 then some ⟨bA,oA,none⟩ else some ⟨bA,oA + (K + 1),none⟩) (P.length - (K + 1)) (capp - (K + 1))),⟨fun v wz=>(fun v w'=>ListsP w17.heap.size w' (v 14) (P.drop (K + 1))) v wz,fun _ _ _ hx h=>ListsP.ext h hx⟩,.none,.none]
              [fun v w1 w'=>ListsP w17.heap.size w' (v 15) (P.take K ++ P.drop (K + 1)) ∧ Below w17.heap.size w1 w',fun v w1 w'=>v 16 = v 15 ∧ ListsP w17.heap.size w' (v 15) (P.take K ++ P.drop (K + 1)) ∧ Below w17.heap.size w1 w'] (by kernel_rfl) rfl (by kernel_rfl) ⟨?g0,?g1,?g2,?g3,?g4,?g5,?g6,?g7,?g8,?g9,?g10,?g11,?g12,?g13,?g14,?g15,?g16,trivial⟩ ?post
             case g0 =>
              intro v w1 hx
              intro bb hbb
              subst hbb
              refine ⟨_,fun w=>?_,rfl⟩
              go_simp
             case g1 =>
              intro v w1 hx
              intro bb hbb
              subst hbb
              refine ⟨_,fun w=>?_,rfl⟩
              go_simp
             case g2 =>
              intro v w1 hx
              intro bb hbb
              subst hbb
              refine ⟨_,fun w=>?_,rfl⟩
              go_simp
             case g3 =>
              intro v w1 hx (q2:v 2 = .slice (some ⟨bA,oA,none⟩) P.length capp)
              intro bb hbb
              subst hbb
              refine ⟨_,fun w=>?_,rfl⟩
              go_simp
             case g4 =>
              intro v w1 hx (q1:v 1 = .int .i64 (nn:Int)) (q2:v 2 = .slice (some ⟨bA,oA,none⟩) P.length capp) (q3:v 3 = .int .i64 ((P.length:Nat):Int))
              intro bb hbb
              subst hbb
              refine ⟨_,fun w=>?_,rfl⟩
              go_simp
             case g5 =>
              intro v w1 hx (q0:v 0 = .slice (some ⟨bA,oA,none⟩) P.length capp) (q1:v 1 = .int .i64 (nn:Int)) (q2:v 2 = .slice (some ⟨bA,oA,none⟩) P.length capp) (q3:v 3 = .int .i64 ((P.length:Nat):Int)) (q4:v 4 = .int .i64 (K:Int))
              intro bb hbb
              subst hbb
              refine ⟨_,fun w=>?_,rfl⟩
              go_simp
             case g6 =>
              intro v w1 hx (q0:v 0 = .slice (some ⟨bA,oA,none⟩) P.length capp) (q1:v 1 = .int .i64 (nn:Int)) (q2:v 2 = .slice (some ⟨bA,oA,none⟩) P.length capp) (q3:v 3 = .int .i64 ((P.length:Nat):Int)) (q4:v 4 = .int .i64 (K:Int)) (q5:v 5 = .slice (some ⟨bA,oA,none⟩) K capp)
              intro bb hbb
              subst hbb
              intro K2 hK2
              go_simp
              refine gives_call (lists_ownP w1 _ _ w17.heap.size (HTK.out.ext (hdr.trans hx)) (by rw [List.length_take]; have:=HKL.out; omega) HST.out hx.size) ?_
              rintro e w2 ⟨u,rfl,hown,hx2⟩
              exact ⟨_,rfl,hK2 _ _ hx2 hown⟩
             case g7 =>
              intro v w1 hx
              intro bb hbb
              subst hbb
              refine ⟨_,fun w=>?_,rfl⟩
              go_simp
             case g8 =>
              intro v w1 hx
              intro bb hbb
              subst hbb
              refine ⟨_,fun w=>?_,rfl⟩
              go_simp
             case g9 =>
              intro v w1 hx
              intro bb hbb
              subst hbb
              refine ⟨_,fun w=>?_,rfl⟩
              go_simp
             case g10 =>
              intro v w1 hx (q9:v 9 = .slice (some ⟨bA,oA,none⟩) P.length capp)
              intro bb hbb
              subst hbb
              refine ⟨_,fun w=>?_,rfl⟩
              go_simp
             case g11 =>
              intro v w1 hx (q8:v 8 = .int .i64 (nn:Int)) (q9:v 9 = .slice (some ⟨bA,oA,none⟩) P.length capp) (q10:v 10 = .int .i64 ((P.length:Nat):Int))
              intro bb hbb
              subst hbb
              refine ⟨_,fun w=>?_,rfl⟩
              go_simp
             case g12 =>
              intro v w1 hx (q8:v 8 = .int .i64 (nn:Int)) (q9:v 9 = .slice (some ⟨bA,oA,none⟩) P.length capp) (q10:v 10 = .int .i64 ((P.length:Nat):Int)) (q11:v 11 = .int .i64 (K:Int))
              intro bb hbb
              subst hbb
              refine ⟨_,fun w=>?_,rfl⟩
              go_simp
             case g13 =>
              intro v w1 hx (q7:v 7 = .slice (some ⟨bA,oA,none⟩) P.length capp) (q8:v 8 = .int .i64 (nn:Int)) (q9:v 9 = .slice (some ⟨bA,oA,none⟩) P.length capp) (q10:v 10 = .int .i64 ((P.length:Nat):Int)) (q11:v 11 = .int .i64 (K:Int)) (q12:v 12 = .int .i64 ((K:Int) + 1))
              intro bb hbb
              subst hbb
              refine ⟨_,fun w=>?_,rfl⟩
              go_simp
             case g14 =>
              intro v w1 hx (q0:v 0 = .slice (some ⟨bA,oA,none⟩) P.length capp) (q1:v 1 = .int .i64 (nn:Int)) (q2:v 2 = .slice (some ⟨bA,oA,none⟩) P.length capp) (q3:v 3 = .int .i64 ((P.length:Nat):Int)) (q4:v 4 = .int .i64 (K:Int)) (q5:v 5 = .slice (some ⟨bA,oA,none⟩) K capp) (q6:(fun v w'=>ListsP w17.heap.size w' (v 6) (P.take K)) v w1) (q7:v 7 = .slice (some ⟨bA,oA,none⟩) P.length capp) (q8:v 8 = .int .i64 (nn:Int)) (q9:v 9 = .slice (some ⟨bA,oA,none⟩) P.length capp) (q10:v 10 = .int .i64 ((P.length:Nat):Int)) (q11:v 11 = .int .i64 (K:Int)) (q12:v 12 = .int .i64 ((K:Int) + 1)) (q13:v 13 = .slice (if capp = K + 1 then some ⟨bA,oA,none⟩ else some ⟨bA,oA + (K + 1),none⟩) (P.length - (K + 1)) (capp - (K + 1)))
              intro bb hbb
              subst hbb
              intro K2 hK2
              go_simp
              refine gives_call (lists_ownP w1 _ _ w17.heap.size (HDK.out.ext (hdr.trans hx)) (by rw [List.length_drop]; omega) HSD.out hx.size) ?_
              rintro e w2 ⟨u,rfl,hown,hx2⟩
              exact ⟨_,rfl,hK2 _ _ hx2 hown⟩
             case g15 =>
              intro v w1 hx (q0:v 0 = .slice (some ⟨bA,oA,none⟩) P.length capp) (q1:v 1 = .int .i64 (nn:Int)) (q2:v 2 = .slice (some ⟨bA,oA,none⟩) P.length capp) (q3:v 3 = .int .i64 ((P.length:Nat):Int)) (q4:v 4 = .int .i64 (K:Int)) (q5:v 5 = .slice (some ⟨bA,oA,none⟩) K capp) (q6:(fun v w'=>ListsP w17.heap.size w' (v 6) (P.take K)) v w1) (q7:v 7 = .slice (some ⟨bA,oA,none⟩) P.length capp) (q8:v 8 = .int .i64 (nn:Int)) (q9:v 9 = .slice (some ⟨bA,oA,none⟩) P.length capp) (q10:v 10 = .int .i64 ((P.length:Nat):Int)) (q11:v 11 = .int .i64 (K:Int)) (q12:v 12 = .int .i64 ((K:Int) + 1)) (q13:v 13 = .slice (if capp = K + 1 then some ⟨bA,oA,none⟩ else some ⟨bA,oA + (K + 1),none⟩) (P.length - (K + 1)) (capp - (K + 1))) (q14:(fun v w'=>ListsP w17.heap.size w' (v 14) (P.drop (K + 1))) v w1)
              intro wl hT
              obtain rfl:wl = w1:=hT
              intro bb hbb
              subst hbb
              intro K2 hK2
              exact gives_append_lists _ _ rfl (by go_simp) q6 (by go_simp) q14 (by rw [List.length_take]; have:=HKL.out; omega) (by rw [List.length_drop]; omega) hx.size (fun v' w' h1 h2=>hK2 _ _ ⟨h1,h2⟩)
             case g16 =>
              intro v w1 hx (q0:v 0 = .slice (some ⟨bA,oA,none⟩) P.length capp) (q1:v 1 = .int .i64 (nn:Int)) (q2:v 2 = .slice (some ⟨bA,oA,none⟩) P.length capp) (q3:v 3 = .int .i64 ((P.length:Nat):Int)) (q4:v 4 = .int .i64 (K:Int)) (q5:v 5 = .slice (some ⟨bA,oA,none⟩) K capp) (q6:(fun v w'=>ListsP w17.heap.size w' (v 6) (P.take K)) v w1) (q7:v 7 = .slice (some ⟨bA,oA,none⟩) P.length capp) (q8:v 8 = .int .i64 (nn:Int)) (q9:v 9 = .slice (some ⟨bA,oA,none⟩) P.length capp) (q10:v 10 = .int .i64 ((P.length:Nat):Int)) (q11:v 11 = .int .i64 (K:Int)) (q12:v 12 = .int .i64 ((K:Int) + 1)) (q13:v 13 = .slice (if capp = K + 1 then some ⟨bA,oA,none⟩ else some ⟨bA,oA + (K + 1),none⟩) (P.length - (K + 1)) (capp - (K + 1))) (q14:(fun v w'=>ListsP w17.heap.size w' (v 14) (P.drop (K + 1))) v w1)
              intro wl hT
              replace hT:(fun v w1 w'=>ListsP w17.heap.size w' (v 15) (P.take K ++ P.drop (K + 1)) ∧ Below w17.heap.size w1 w') v w1 wl:=hT
              intro bb hbb
              subst hbb
              intro K2 hK2
              go_simp
              exact hK2 _ _ ⟨rfl,hT⟩
             case post =>
              intro v w1 hx (q0:v 0 = .slice (some ⟨bA,oA,none⟩) P.length capp) (q1:v 1 = .int .i64 (nn:Int)) (q2:v 2 = .slice (some ⟨bA,oA,none⟩) P.length capp) (q3:v 3 = .int .i64 ((P.length:Nat):Int)) (q4:v 4 = .int .i64 (K:Int)) (q5:v 5 = .slice (some ⟨bA,oA,none⟩) K capp) (q6:(fun v w'=>ListsP w17.heap.size w' (v 6) (P.take K)) v w1) (q7:v 7 = .slice (some ⟨bA,oA,none⟩) P.length capp) (q8:v 8 = .int .i64 (nn:Int)) (q9:v 9 = .slice (some ⟨bA,oA,none⟩) P.length capp) (q10:v 10 = .int .i64 ((P.length:Nat):Int)) (q11:v 11 = .int .i64 (K:Int)) (q12:v 12 = .int .i64 ((K:Int) + 1)) (q13:v 13 = .slice (if capp = K + 1 then some ⟨bA,oA,none⟩ else some ⟨bA,oA + (K + 1),none⟩) (P.length - (K + 1)) (capp - (K + 1))) (q14:(fun v w'=>ListsP w17.heap.size w' (v 14) (P.drop (K + 1))) v w1)
              intro w2 hE
              replace hE:(fun v w1 w'=>v 16 = v 15 ∧ ListsP w17.heap.size w' (v 15) (P.take K ++ P.drop (K + 1)) ∧ Below w17.heap.size w1 w') v w1 w2:=hE
              simp only [Flow.acts,Act.put]
              go_simp
              obtain ⟨e1,e2,e3⟩:=hE
              have hxx:Ext w17 w2:=below_ext hx e3
              obtain ⟨bL,cL,hsh⟩:∃ b c,v 15 = .slice b (lessAt P K).length c:=by
               obtain ⟨b,c,h,_⟩:=e2.shape
               exact ⟨b,c,h⟩
              have HL2:Hid (IsIntss w2 (v 15) (lessAt P K)):=by exact (e2.read (show (lessAt P K).length ≤ 2000 by have:=lessAt_len P K; omega) (fun j hj=>Nat.le_trans (HSL.out j hj) (by omega)):IsIntss w2 (v 15) (lessAt P K))
              replace HX:=Lib.hid (HX.out.trans hxx)
              replace HT:=Lib.hid (HT.out.ext hxx)
              replace HTAB:=Lib.hid (HTAB.out.ext hxx)
              replace K0:=Lib.hid (K0.out.ext hxx)
              replace HC:=Lib.hid (HC.out.ext hxx)
              replace HP:=Lib.hid (HP.out.ext hxx)
              replace HS:=Lib.hid (HS.out.ext hxx)
              replace HL1:=Lib.hid (HL1.out.ext hxx)
              obtain ⟨nHL2,hnHL2⟩:∃ n,(lessAt P K).length = n:=⟨_,rfl⟩
              rw [hsh] at HL2
              have hHL2:=HKL.out
              try rw [e1]
              rw [hsh]
              generalize (if capp = K + 1 then (some ⟨bA,oA,none⟩:Option Addr) else some ⟨bA,oA + (K + 1),none⟩) = A13
              obtain ⟨w18,rfl⟩:∃ X,X = w2:=⟨_,rfl⟩
              have c0:=K0.out.cell 0
              have c1:=K0.out.cell 1
              have c2:=K0.out.cell 2
              simp only [List.getElem?_toArray,List.getElem?_cons_zero,List.getElem?_cons_succ] at c0 c1 c2
              clear e1 e2 e3 hsh hxx hx hdr g1 g2 g3 g4 g5 g6 hwk hcne hl35 hrem HTK HDK HST HSD HKL hnHL2 hHL2 nHL2 q0 q1 q2 q3 q4 q5 q6 q7 q8 q9 q10 q11 q12 q13 q14
              have HPK:=Lib.hid (HPL.out K hKl)
              obtain ⟨X2,hX2⟩:∃ X,lessAt P K = X:=⟨_,rfl⟩
              rw [hX2] at HL2 HPK ⊢
              clear hX2 hKl HSL
              go_wp2_with fail
              refine (own_any _ _ t ⟨_,_,_,rfl,HT.out⟩ HF.out).mono ?_
              rintro e w19 ⟨uu,rfl,hu,hx⟩
              have hxx:Ext w18 w19:=hx
              replace HX:=Lib.hid (HX.out.trans hxx)
              replace HT:=Lib.hid (HT.out.ext hxx)
              replace c0:=hxx.cell c0
              replace c1:=hxx.cell c1
              replace c2:=hxx.cell c2
              replace HTAB:=Lib.hid (HTAB.out.ext hxx)
              replace K0:=Lib.hid (K0.out.ext hxx)
              replace HC:=Lib.hid (HC.out.ext hxx)
              replace HP:=Lib.hid (HP.out.ext hxx)
              replace HS:=Lib.hid (HS.out.ext hxx)
              replace HL1:=Lib.hid (HL1.out.ext hxx)
              replace HL2:=Lib.hid (HL2.out.ext hxx)
              have HU:=Lib.hid (hu)
              clear hx hxx
              clear hu
              go_wp2_with fail
              refine (lists_any _ _ P HP.out (by have:=HPF.out.le; omega) (fun j hj=>by have:=(HPF.out.each j hj).1; omega)).mono ?_
              rintro e w20 ⟨vb,rfl,hv,hx⟩
              have hxx:Ext w19 w20:=hx
              replace HX:=Lib.hid (HX.out.trans hxx)
              replace HT:=Lib.hid (HT.out.ext hxx)
              replace c0:=hxx.cell c0
              replace c1:=hxx.cell c1
              replace c2:=hxx.cell c2
              replace HTAB:=Lib.hid (HTAB.out.ext hxx)
              replace K0:=Lib.hid (K0.out.ext hxx)
              replace HC:=Lib.hid (HC.out.ext hxx)
              replace HP:=Lib.hid (HP.out.ext hxx)
              replace HS:=Lib.hid (HS.out.ext hxx)
              replace HL1:=Lib.hid (HL1.out.ext hxx)
              replace HL2:=Lib.hid (HL2.out.ext hxx)
              replace HU:=Lib.hid (HU.out.ext hxx)
              have HV2:=Lib.hid (hv)
              clear hx hxx
              clear hv
              go_wp2_with fail
              refine (lCC _ _ _ _ t X1 P 22 HCK.out HU.out HL1.out HV2.out).mono ?_
              rintro e w21 ⟨rfl,hx⟩
              have hxx:Ext w20 w21:=hx
              replace HX:=Lib.hid (HX.out.trans hxx)
              replace HT:=Lib.hid (HT.out.ext hxx)
              replace c0:=hxx.cell c0
              replace c1:=hxx.cell c1
              replace c2:=hxx.cell c2
              clear HV2
              replace HTAB:=Lib.hid (HTAB.out.ext hxx)
              replace K0:=Lib.hid (K0.out.ext hxx)
              replace HC:=Lib.hid (HC.out.ext hxx)
              replace HP:=Lib.hid (HP.out.ext hxx)
              replace HS:=Lib.hid (HS.out.ext hxx)
              replace HL1:=Lib.hid (HL1.out.ext hxx)
              replace HL2:=Lib.hid (HL2.out.ext hxx)
              replace HU:=Lib.hid (HU.out.ext hxx)
              clear hx hxx
              clear HU
              go_wp2_with fail
              refine (own_any _ _ t ⟨_,_,_,rfl,HT.out⟩ HF.out).mono ?_
              rintro e w22 ⟨uu,rfl,hu,hx⟩
              have hxx:Ext w21 w22:=hx
              replace HX:=Lib.hid (HX.out.trans hxx)
              replace HT:=Lib.hid (HT.out.ext hxx)
              replace c0:=hxx.cell c0
              replace c1:=hxx.cell c1
              replace c2:=hxx.cell c2
              replace HTAB:=Lib.hid (HTAB.out.ext hxx)
              replace K0:=Lib.hid (K0.out.ext hxx)
              replace HC:=Lib.hid (HC.out.ext hxx)
              replace HP:=Lib.hid (HP.out.ext hxx)
              replace HS:=Lib.hid (HS.out.ext hxx)
              replace HL1:=Lib.hid (HL1.out.ext hxx)
              replace HL2:=Lib.hid (HL2.out.ext hxx)
              have HU:=Lib.hid (hu)
              clear hx hxx
              clear hu
              go_wp2_with fail
              refine (lists_any _ _ C HC.out (by have:=HCF.out.le; omega) (fun j hj=>by have:=(HCF.out.each j hj).1; omega)).mono ?_
              rintro e w23 ⟨va,rfl,hv,hx⟩
              have hxx:Ext w22 w23:=hx
              replace HX:=Lib.hid (HX.out.trans hxx)
              replace HT:=Lib.hid (HT.out.ext hxx)
              replace c0:=hxx.cell c0
              replace c1:=hxx.cell c1
              replace c2:=hxx.cell c2
              replace HTAB:=Lib.hid (HTAB.out.ext hxx)
              replace K0:=Lib.hid (K0.out.ext hxx)
              replace HC:=Lib.hid (HC.out.ext hxx)
              replace HP:=Lib.hid (HP.out.ext hxx)
              replace HS:=Lib.hid (HS.out.ext hxx)
              replace HL1:=Lib.hid (HL1.out.ext hxx)
              replace HL2:=Lib.hid (HL2.out.ext hxx)
              replace HU:=Lib.hid (HU.out.ext hxx)
              have HV1:=Lib.hid (hv)
              clear hx hxx
              clear hv
              go_wp2_with fail
              refine (lCC _ _ _ _ t C X2 22 HPK.out HU.out HV1.out HL2.out).mono ?_
              rintro e w24 ⟨rfl,hx⟩
              have hxx:Ext w23 w24:=hx
              replace HX:=Lib.hid (HX.out.trans hxx)
              replace HT:=Lib.hid (HT.out.ext hxx)
              replace c0:=hxx.cell c0
              replace c1:=hxx.cell c1
              replace c2:=hxx.cell c2
              clear HV1
              replace HTAB:=Lib.hid (HTAB.out.ext hxx)
              replace K0:=Lib.hid (K0.out.ext hxx)
              replace HC:=Lib.hid (HC.out.ext hxx)
              replace HP:=Lib.hid (HP.out.ext hxx)
              replace HS:=Lib.hid (HS.out.ext hxx)
              replace HL1:=Lib.hid (HL1.out.ext hxx)
              replace HL2:=Lib.hid (HL2.out.ext hxx)
              replace HU:=Lib.hid (HU.out.ext hxx)
              clear hx hxx
              clear HU
              clear c0 c1 c2
              go_wp2
              go_ret
              exact ⟨rfl,HW0.out.trans HX.out⟩
end Go.Proofs
namespace Go.Proofs.YtmaejccjimkbiaaGreatDoor
open Go.ChangeShapes Go.WideShapes Go.ChangeAt Go.RowKit Go.Tw
set_option maxRecDepth 100000 in
theorem faultMonotone_lifted (os:Os) (started:os.Started) (H:Type) (enc:TypeId × Value → H) :
    ReturnsInHanded {} Tryz.checked os 3 .any (fun w args=>(Rows.faultMonotoneSpec.pre enc Tryz.prog Tryz.f3 Rows.faultMonotoneRow.domain false w args ∧ laidMetH Tryz.prog laidL w) ∧ sizedMet enc Tryz.prog Tryz.f3 (OpenSpec.ofChange Rows.faultMonotoneSpec) false w args)
     (Rows.faultMonotoneSpec.post enc Tryz.prog Tryz.f3 false true false false):=by
 refine returnsInHanded_of_change_and (C:=Tryz.checked) (X:=fun w _=>laidMetH Tryz.prog laidL w) (fun _ _ _ hh h=>h.of_heap hh) own started (by kernel_rfl) Tryz.func3
  (ChangeSpec.witness_shaped (enc:=enc) (C:=Tryz.checked) (os:=os) (X:=fun w _=>laidMetH Tryz.prog laidL w) false (World.laidAll Tryz.prog os laidL) #[.agg #[.slice none 0 0,.slice none 0 0,.slice none 0 0],.int .u8 0] 8 (World.laidAll_os _ _ _)
   (World.shaped_of_ZipB (by kernel_rfl) (by kernel_rfl)) (by kernel_rfl) (by kernel_rfl) (by kernel_rfl)
   (by rw [MakeChecks.laidMetH_plain _ _ _ (by kernel_rfl)]; exact laidMet_laidAll _ (by kernel_rfl) (by kernel_rfl))) ?_
 intro W base args ds gs before hval0 hW hc hsz0 hL _
 have hval:∀ (j:Nat) t v,Tryz.f3.params[j]? = some t → args[j]? = some v → Value.okWide Tryz.prog W .any base t v:=hval0
 have hsz:(DataW.weightsEach Tryz.prog (Tryz.f3.params.toList ++ Rows.faultMonotoneSpec.plain.varTypes Tryz.prog) (ds ++ gs)).all (· ≤ reachBytes) = true:=hsz0
 have hW':=hW
 obtain ⟨p,q,hA0,hV,rfl,hfz,hnd⟩:=hW
 have hA:DataW.TrodAll enc Tryz.prog W 0 (fun _=>true) true Tryz.f3.params.toList args.toList ds p:=hA0
 rw [Tryz.params3] at hA hval hsz
 obtain ⟨v0,vs0,d0,ds0,p0,q0,hargs,rfl,rfl,h0,r0⟩:=trodAll_cons hA
 obtain ⟨v1,vs1,d1,ds1,p1,q1,rfl,rfl,rfl,h1,r1⟩:=trodAll_cons r0
 obtain ⟨rfl,rfl,rfl⟩:=trodAll_nil r1
 obtain rfl:args = #[v0,v1]:=by cases args; simp_all
 obtain ⟨rfl,rfl⟩:=trodVars_none hV
 have hfit:∀ x ∈ DataW.weightsEach Tryz.prog [26,5] [d0,d1],x ≤ 140737488351232:=fun x hx=>by
  have:=List.all_eq_true.1 (show (DataW.weightsEach Tryz.prog [26,5] [d0,d1]).all (· ≤ reachBytes) = true from hsz) x hx
  exact Nat.le_trans (of_decide_eq_true this) (by decide)
 obtain ⟨f0,g0⟩:=fits_each hfit
 obtain ⟨f1,g1⟩:=fits_each g0
 have k0:=h0
 have lt0:∀ x ∈ p0,x.block < W.heap.size:=by obtain ⟨m,hm⟩:=k0; exact DataW.trod_lt m _ _ _ hm
 obtain ⟨t0,HI0⟩:=tree_of_trod (hval 0 26 v0 rfl rfl) h0 f0
 have k1:=h1
 have lt1:∀ x ∈ p1,x.block < W.heap.size:=by obtain ⟨m,hm⟩:=k1; exact DataW.trod_lt m _ _ _ hm
 obtain ⟨z1,rfl,rfl,rfl,wz1⟩:=open_int Tryz.underlying5 (hval 1 5 v1 rfl rfl) h1
 obtain ⟨nu1,hu1,rfl⟩:=u8_nat wz1
 clear hA0 hval0 hsz0
 refine (faultMonotone_any _ _ _ _ hu1 HI0 (tab_of_laid hL)).mono fun e W' ⟨he,bel⟩=>?_
 subst he
 exact ⟨_,rfl,_,_,_,[],_,[],hW',trodAll_mk1 (shut_bool Tryz.underlying4 _),(trodAll_cons_mk (Below.trod laidOut (by kernel_rfl) (of_decide_eq_true (by kernel_rfl)) k0 bel lt0) (trodAll_cons_mk (shut_int Tryz.underlying5 wz1) trodAll_mk0)),rfl,bel.frame _,fun h=>by cases h⟩
theorem faultMonotone_holds:Rows.FaultMonotoneSaid :=
 OpenClaim.holds_of_wide 3 Tryz.f3 rfl rfl rfl rfl rfl rfl rfl ⟨rfl,rfl,rfl,rfl,rfl⟩ rfl rfl rfl rfl rfl (by kernel_rfl) Tryz.func3 (by kernel_rfl)
  (of_decide_eq_true (by kernel_rfl)) (by unfold Func.isWrapper; first | (rw [if_pos (by decide +kernel)]; kernel_rfl) | (rw [if_neg (by decide +kernel)]; exact ⟨rfl,rfl⟩))
  (fun os started H enc _=>faultMonotone_lifted os started H enc)
theorem faultMonotone_card:Rows.FaultMonotoneCardSaid :=
 Claim7.holds_tied_plain_at .later [] [.data,.data,.data] true _ false faultMonotone_holds (fun _ h=>by cases h) (by kernel_rfl) (fun _ h=>by cases h) faultMonotone_row_tie rfl ⟨rfl,rfl⟩ (by kernel_rfl) rfl
  (fun f fn hf hfn=>by
   obtain rfl:f = 3:=Option.some.inj ((show Tryz.prog.funcNamed Rows.faultMonotoneRow.func = some 3 by kernel_rfl).symm.trans hf) |>.symm
   obtain rfl:fn = Tryz.f3:=(Option.some.inj (Tryz.func3.symm.trans hfn)).symm
   exact ⟨by kernel_rfl,fun j t ht=>by
    rw [Tryz.params3] at ht
    have hm:t ∈ [26,5]:=by simpa using Array.mem_of_getElem? ht
    have hall:([26,5].all fun u=>!Tryz.prog.wantsStandIn u) = true:=by kernel_rfl
    exact (show Tryz.prog.wantsStandIn t = false by simpa using List.all_eq_true.1 hall t hm)⟩)
  (by kernel_rfl)
#print axioms faultMonotone_card
end Go.Proofs.YtmaejccjimkbiaaGreatDoor
