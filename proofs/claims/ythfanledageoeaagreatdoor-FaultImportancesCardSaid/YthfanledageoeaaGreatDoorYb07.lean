/- Contract of bits.OnesCount. What a tree without an error is like. The nodes of a tree as sets of bits, and what they come to: no program is in sight here. -/
import Derived.Test.YthfanledageoeaaGreatDoorYb06
import Derived.Test.YthfanledageoeaaGreatDoorYb02
set_option linter.unusedVariables false
set_option linter.unusedSimpArgs false
set_option linter.constructorNameAsVariable false
namespace Go.Proofs
open Go.RowKit Go.Tw Go.Flow
theorem wrapU (n:Int) (h0:0 ≤ n) (h1:n < 2 ^ 64):IntKind.u64.wrap n = n:=by
 simp [IntKind.wrap,IntKind.bits,IntKind.signed]; omega
theorem wrapUN {n:Nat} (h:n < 18446744073709551616):IntKind.u64.wrap (n:Int) = (n:Int):=wrapU _ (by omega) (by omega)
theorem andU {a b:Nat} (ha:a < 2 ^ 64) (hb:b < 2 ^ 64):bits .and .u64 (a:Int) (b:Int) = ((a &&& b:Nat):Int):=(bits_nat .u64 64 (by decide) wrapU a b ha hb).1
theorem u1 {n:Nat} (h:n < 2 ^ 64):IntKind.u64.wrap (bits .and .u64 ((n:Int) / 2) 6148914691236517205 + bits .and .u64 (n:Int) 6148914691236517205) = (onesA n:Int):=by
 have e1:bits .and .u64 ((n:Int) / 2) 6148914691236517205 = ((n / 2 &&& 6148914691236517205:Nat):Int):=andU (a:=n / 2) (b:=6148914691236517205) (by omega) (by decide)
 have e2:bits .and .u64 (n:Int) 6148914691236517205 = ((n &&& 6148914691236517205:Nat):Int):=andU (a:=n) (b:=6148914691236517205) h (by decide)
 have b1:=le_and (n / 2) 6148914691236517205
 have b2:=le_and n 6148914691236517205
 rw [e1,e2,← Int.natCast_add]
 exact wrapUN (by omega)
theorem u2 {n:Nat} (h:n < 2 ^ 64):IntKind.u64.wrap (bits .and .u64 ((n:Int) / 4) 3689348814741910323 + bits .and .u64 (n:Int) 3689348814741910323) = (onesB n:Int):=by
 have e1:bits .and .u64 ((n:Int) / 4) 3689348814741910323 = ((n / 4 &&& 3689348814741910323:Nat):Int):=andU (a:=n / 4) (b:=3689348814741910323) (by omega) (by decide)
 have e2:bits .and .u64 (n:Int) 3689348814741910323 = ((n &&& 3689348814741910323:Nat):Int):=andU (a:=n) (b:=3689348814741910323) h (by decide)
 have b1:=le_and (n / 4) 3689348814741910323
 have b2:=le_and n 3689348814741910323
 rw [e1,e2,← Int.natCast_add]
 exact wrapUN (by omega)
theorem onesA_lt (n:Nat):onesA n < 2 ^ 64:=by
 have b1:=le_and (n / 2) 6148914691236517205
 have b2:=le_and n 6148914691236517205
 unfold onesA; omega
theorem onesB_le (n:Nat):onesB n ≤ 7378697629483820646:=by
 have b1:=le_and (n / 4) 3689348814741910323
 have b2:=le_and n 3689348814741910323
 unfold onesB; omega
theorem u3 {n:Nat} (h:n ≤ 7378697629483820646):bits .and .u64 (IntKind.u64.wrap ((n:Int) / 16 + (n:Int))) 1085102592571150095 = (onesC n:Int):=by
 have e1:IntKind.u64.wrap ((n:Int) / 16 + (n:Int)) = ((n / 16 + n:Nat):Int):=wrapUN (n:=n / 16 + n) (by omega)
 rw [e1]
 exact andU (a:=n / 16 + n) (b:=1085102592571150095) (by omega) (by decide)
theorem u4 {n:Nat} (h:n < 2 ^ 63):IntKind.u64.wrap ((n:Int) + (n:Int) / 256) = ((n + n / 256:Nat):Int):=wrapUN (n:=n + n / 256) (by omega)
theorem u5 {n:Nat} (h:n < 2 ^ 63):IntKind.u64.wrap ((n:Int) + (n:Int) / 65536) = ((n + n / 65536:Nat):Int):=wrapUN (n:=n + n / 65536) (by omega)
theorem u6 {n:Nat} (h:n < 2 ^ 63):IntKind.u64.wrap ((n:Int) + (n:Int) / 4294967296) = ((n + n / 4294967296:Nat):Int):=wrapUN (n:=n + n / 4294967296) (by omega)
theorem u7 {n:Nat} (h:n < 2 ^ 62):bits .and .i64 (wrap64 (n:Int)) 127 = ((n % 128:Nat):Int):=by
 have e:wrap64 (n:Int) = (n:Int):=by unfold wrap64; omega
 have e2:bits .and .i64 (n:Int) 127 = ((n &&& 127:Nat):Int):=and64 (a:=n) (b:=127) h (by decide)
 rw [e,e2,show (127:Nat) = 2 ^ 7 - 1 from rfl,Nat.and_two_pow_sub_one_eq_mod]
set_option maxRecDepth 100000 in
theorem Ones64_any (w:World) (n:Nat) (hn:n < 2 ^ 64) :
    Calls Tryz.prog 153 #[.int .u64 n] w fun e w'=>e = .returned (.int .i64 (popN n 64:Nat)) ∧ w = w':=by
 have HN:=Lib.hid hn
 clear hn
 go_enter Tryz.func153,Tryz.ntmps153
 go_wp2
 go_ret
 refine ⟨ret_int ?_,rfl⟩
 obtain ⟨x,hx⟩:∃ x,onesC (onesB (onesA n)) = x:=⟨_,rfl⟩
 obtain ⟨a,ha⟩:∃ a,x + x / 256 = a:=⟨_,rfl⟩
 obtain ⟨b,hb⟩:∃ b,a + a / 65536 = b:=⟨_,rfl⟩
 obtain ⟨c,hc⟩:∃ c,b + b / 4294967296 = c:=⟨_,rfl⟩
 obtain ⟨bx,ba,bb,bc,e⟩:=ones_final HN.out hx ha hb hc
 rw [u1 HN.out,u2 (onesA_lt n),u3 (onesB_le _),hx,u4 (by omega),ha,u5 (by omega),hb,u6 (by omega),hc,← e]
 exact u7 (by omega)
theorem Ones_any (w:World) (n:Nat) (hn:n < 2 ^ 64) :
    Calls Tryz.prog 137 #[.int .u64 n] w fun e w'=>e = .returned (.int .i64 (popN n 64:Nat)) ∧ w = w':=by
 have HN:=Lib.hid hn
 clear hn
 go_enter Tryz.func137,Tryz.ntmps137
 go_wp2_with (go_at_call 153; refine (Ones64_any _ _ HN.out).mono ?_; rintro e w' ⟨rfl,rfl⟩)
 go_ret
 exact ⟨rfl,rfl⟩
end Go.Proofs
namespace Go.Tw
theorem firstErr_zero {l:List Int}:firstErr l = 0 ↔ ∀ x ∈ l,x = 0:=by
 induction l with
 | nil=>simp [firstErr]
 | cons y l ih =>
   unfold firstErr
   by_cases h:y = 0
   · simp [h,ih]
   · simp [h]
structure Fit (t:Tree):Prop where
 nb:t.basics.length ≤ 1000
 nc:t.causes.length ≤ 1000
 ng:t.gates.length ≤ 1000
 inp:∀ k,k < t.gates.length → ∀ x ∈ gInputs t.gates k,0 ≤ x ∧ x < (t.basics.length:Int) + k
theorem setErr_zero {l:List Int} {n:Int} (h:setErr l n = 0):(∀ x ∈ l,0 ≤ x ∧ x < n) ∧ ascB l = true:=by
 unfold setErr at h
 split at h
 · cases h
 · split at h
   · rename_i h1 h2
     refine ⟨fun x hx=>?_,h2⟩
     unfold outB at h1
     rw [Bool.not_eq_true,List.any_eq_false] at h1
     have:=h1 x hx
     simp only [decide_eq_true_eq] at this
     omega
   · cases h
structure Valid (t:Tree):Prop where
 nb:1 ≤ t.basics.length
 ng:1 ≤ t.gates.length
 size:t.size ≤ 12
 ng':t.gates.length ≤ 32
 event:∀ i,i < t.size → t.eventErr i = 0
 gate:∀ i,i < t.gates.length → t.gateErrAt i = 0
theorem Valid.of {t:Tree} (h:t.err = 0):Valid t:=by
 unfold Tree.err at h
 split at h
 · cases h
 · split at h
   · cases h
   · rename_i h1 h2
     rw [firstErr_zero] at h
     refine ⟨by omega,by omega,by omega,by omega,fun i hi=>h _ ?_,fun i hi=>h _ ?_⟩
     · exact List.mem_append_left _ (List.mem_map.2 ⟨i,List.mem_range.2 hi,rfl⟩)
     · exact List.mem_append_right _ (List.mem_map.2 ⟨i,List.mem_range.2 hi,rfl⟩)
theorem Valid.inputs {t:Tree} (h:Valid t) {k:Nat} (hk:k < t.gates.length):listErr (gInputs t.gates k) ((t.basics.length:Int) + k) = 0:=by
 have:=h.gate k hk
 unfold Tree.gateErrAt gateErr at this
 rw [firstErr_zero] at this
 exact this _ (by simp)
theorem listErr_zero {l:List Int} {n:Int} (h:listErr l n = 0):l ≠ [] ∧ setErr l n = 0:=by
 unfold listErr at h
 split at h
 · cases h
 · exact ⟨‹_›,h⟩
theorem Valid.fit {t:Tree} (h:Valid t):Fit t:=by
 have:=h.size
 unfold Tree.size at this
 have:=h.ng'
 exact ⟨by omega,by omega,by omega,fun k hk=>(setErr_zero (listErr_zero (h.inputs hk)).2).1⟩
theorem Valid.chance {t:Tree} (h:Valid t) {i:Nat} (hi:i < t.size):0 ≤ t.chanceAt i ∧ t.chanceAt i ≤ 16:=by
 have:=h.event i hi
 unfold Tree.eventErr at this
 rw [firstErr_zero] at this
 have:=this (rangeErr (t.chanceAt i) 0 16) (by simp)
 unfold rangeErr at this
 split at this
 · cases this
 · omega
end Go.Tw
namespace Go.Tw
open Go.RowKit
theorem asc_head {x:Int} {l:List Int} (h:ascB (x :: l) = true):∀ y ∈ l,x < y:=by
 induction l generalizing x with
 | nil=>intro y hy; cases hy
 | cons z l ih =>
   simp only [ascB,Bool.and_eq_true,decide_eq_true_eq] at h
   intro y hy
   rcases List.mem_cons.1 hy with rfl | hy
   · exact h.1
   · exact Int.lt_trans h.1 (ih h.2 y hy)
theorem asc_tail {x:Int} {l:List Int} (h:ascB (x :: l) = true):ascB l = true:=by
 cases l with
 | nil=>rfl
 | cons z l=>simp only [ascB,Bool.and_eq_true] at h; exact h.2
theorem count_one (a:Nat) (p:Nat → Bool):∀ k,(List.range k).countP (fun i=>p i && decide (i = a)) = if a < k then (if p a then 1 else 0) else 0
 | 0=>rfl
 | k + 1=>by
   rw [List.range_succ,List.countP_append,count_one a p k,List.countP_singleton]
   by_cases h:a < k
   · have h2:¬ k = a:=by omega
     have h3:a < k + 1:=by omega
     simp [h,h2,h3]
   · by_cases h2:k = a
     · subst h2; simp
     · have h3:¬ a < k + 1:=by omega
       simp [h,h2,h3]
theorem count_split (l:List Nat) (p q:Nat → Bool) (h:∀ i ∈ l,¬ (p i = true ∧ q i = true)):l.countP (fun i=>p i || q i) = l.countP p + l.countP q:=by
 induction l with
 | nil=>rfl
 | cons x l ih =>
   have h0:=h x (List.mem_cons_self ..)
   rw [List.countP_cons,List.countP_cons,List.countP_cons,ih (fun i hi=>h i (List.mem_cons_of_mem _ hi))]
   cases hp:p x <;> cases hq:q x <;> simp_all <;> omega
theorem count_members (k:Nat) (p:Nat → Bool):∀ l:List Int,ascB l = true → (∀ x ∈ l,0 ≤ x ∧ x < (k:Int)) → (List.range k).countP (fun i=>p i && has l i) = l.countP fun x=>p x.toNat
 | [],_,_=>by simp [has]
 | x :: l,ha,hb=>by
   have h0:=hb x (List.mem_cons_self ..)
   have e:(List.range k).countP (fun i=>p i && has (x :: l) i) = (List.range k).countP (fun i=>(p i && decide (i = x.toNat)) || (p i && has l i)):=by
    refine List.countP_congr fun i _=>?_
    rw [has_cons]
    have:(x == (i:Int)) = decide (i = x.toNat):=by
     by_cases h:x = (i:Int)
     · subst h; simp
     · rw [beq_false_of_ne h,decide_eq_false (by omega)]
    rw [this]
    cases p i <;> simp
   rw [e,count_split,count_one,if_pos (by omega),count_members k p l (asc_tail ha) (fun y hy=>hb y (List.mem_cons_of_mem _ hy)),List.countP_cons]
   · omega
   · rintro i _ ⟨h1,h2⟩
     simp only [Bool.and_eq_true,decide_eq_true_eq] at h1 h2
     have:=asc_head ha (i:Int) (has_iff.1 h2.2)
     omega
theorem pop_members {out:List Bool} {l:List Int} (ha:ascB l = true) (hb:∀ x ∈ l,0 ≤ x ∧ x < 64):popN (packB out &&& maskOf l) 64 = failing out l:=by
 unfold popN failing
 rw [← count_members 64 (fun i=>bx out i) l ha hb]
 refine List.countP_congr fun i _=>?_
 rw [Nat.testBit_and,packB_bit,maskOf_bit (fun x hx=>(hb x hx).1)]
namespace Tree
def maskAt (t:Tree) (k:Nat):Nat:=if k < t.basics.length then 2 ^ k else maskOf (cMembers t.causes (k - t.basics.length))
def masks (t:Tree):List Int:=(List.range t.size).map fun k=>(t.maskAt k:Int)
def gt (t:Tree) (k:Nat):Nat × Int:=(maskOf (gInputs t.gates k),needOf (gKind t.gates k) (gNeed t.gates k) (gInputs t.gates k).length)
def gts (t:Tree):List (Nat × Int):=(List.range t.gates.length).map t.gt
def orTo (t:Tree) (s:Nat):Nat → Nat
 | 0=>0
 | k + 1=>if s.testBit k then t.orTo s k ||| t.maskAt k else t.orTo s k
end Tree
theorem masks_len (t:Tree):t.masks.length = t.size:=by simp [Tree.masks]
theorem gts_len (t:Tree):t.gts.length = t.gates.length:=by simp [Tree.gts]
theorem masks_ix {t:Tree} {k:Nat} (h:k < t.size):ix t.masks k = (t.maskAt k:Int):=by
 rw [ix_eq (by rw [masks_len]; exact h)]; simp [Tree.masks]
theorem Valid.members {t:Tree} (h:Valid t) {k:Nat} (hk:k < t.causes.length):∀ x ∈ cMembers t.causes k,0 ≤ x ∧ x < (t.basics.length:Int):=by
 have h1:=h.event (t.basics.length + k) (by unfold Tree.size; omega)
 unfold Tree.eventErr at h1
 rw [firstErr_zero] at h1
 have h2:=h1 (if t.basics.length + k < t.basics.length then 0 else listErr (cMembers t.causes (t.basics.length + k - t.basics.length)) t.basics.length) (by simp)
 rw [if_neg (by omega),Nat.add_sub_cancel_left] at h2
 exact (setErr_zero (listErr_zero h2).2).1
theorem Valid.maskAt_lt {t:Tree} (h:Valid t) {k:Nat} (hk:k < t.size):t.maskAt k < 2 ^ t.basics.length:=by
 unfold Tree.maskAt
 split
 · rename_i h1; exact Nat.pow_lt_pow_right (by omega) h1
 · exact maskOf_lt h.nb (fun x hx=>(h.members (by unfold Tree.size at hk; omega) x hx).2)
theorem Valid.orTo_lt {t:Tree} (h:Valid t) (s:Nat):∀ k,k ≤ t.size → t.orTo s k < 2 ^ t.basics.length
 | 0,_=>Nat.two_pow_pos _
 | k + 1,hk=>by
   have ih:=h.orTo_lt s k (by omega)
   rw [Tree.orTo]
   split
   · exact Nat.or_lt_two_pow ih (h.maskAt_lt (by omega))
   · exact ih
theorem orTo_bit (t:Tree) (s i:Nat):∀ k,(t.orTo s k).testBit i = (List.range k).any fun j=>s.testBit j && (t.maskAt j).testBit i
 | 0=>by simp [Tree.orTo]
 | k + 1=>by
   rw [Tree.orTo,List.range_succ,List.any_append,← orTo_bit t s i k]
   cases h:s.testBit k
   · simp [h]
   · simp [h,Nat.testBit_or]
theorem range_any_split (a b:Nat) (p:Nat → Bool):(List.range (a + b)).any p = ((List.range a).any p || (List.range b).any fun j=>p (a + j)):=by
 rw [List.range_add,List.any_append,List.any_map]; rfl
theorem any_one (n i:Nat) (p:Nat → Bool):((List.range n).any fun j=>p j && decide (i = j)) = (decide (i < n) && p i):=by
 induction n with
 | zero=>rfl
 | succ n ih =>
   rw [List.range_succ,List.any_append,ih]
   by_cases h:i = n
   · subst h; simp
   · by_cases h2:i < n
     · have h3:i < n + 1:=by omega
       simp [h,h2,h3]
     · have h3:¬ i < n + 1:=by omega
       simp [h,h2,h3]
theorem Valid.orTo_all {t:Tree} (h:Valid t) (s:Nat):t.orTo s t.size = packB (t.basicsB (evN s)):=by
 apply Nat.eq_of_testBit_eq
 intro i
 rw [packB_bit]
 rcases Nat.lt_or_ge i t.basics.length with hi | hi
 · have e:bx (t.basicsB (evN s)) i = t.basicB (evN s) i:=by unfold bx Tree.basicsB; simp [hi]
   rw [e,orTo_bit,Tree.size,range_any_split]
   unfold Tree.basicB evN
   congr 1
   · have e2:((List.range t.basics.length).any fun j=>s.testBit j && (t.maskAt j).testBit i) = (List.range t.basics.length).any fun j=>s.testBit j && decide (i = j):=by
      rw [Bool.eq_iff_iff,List.any_eq_true,List.any_eq_true]
      constructor
      · rintro ⟨j,hj,h2⟩
        refine ⟨j,hj,?_⟩
        unfold Tree.maskAt at h2
        rwa [if_pos (List.mem_range.1 hj),bit_pow] at h2
      · rintro ⟨j,hj,h2⟩
        refine ⟨j,hj,?_⟩
        unfold Tree.maskAt
        rwa [if_pos (List.mem_range.1 hj),bit_pow]
     rw [e2,any_one,decide_eq_true hi,Bool.true_and]
   · rw [Bool.eq_iff_iff,List.any_eq_true,List.any_eq_true]
     have e3:∀ j,j < t.causes.length → (t.maskAt (t.basics.length + j)).testBit i = has (cMembers t.causes j) i:=by
      intro j hj
      unfold Tree.maskAt
      rw [if_neg (by omega),Nat.add_sub_cancel_left,maskOf_bit (fun x hx=>(h.members hj x hx).1)]
     constructor
     · rintro ⟨j,hj,h2⟩
       exact ⟨j,hj,by rwa [e3 j (List.mem_range.1 hj)] at h2⟩
     · rintro ⟨j,hj,h2⟩
       exact ⟨j,hj,by rwa [e3 j (List.mem_range.1 hj)]⟩
 · rw [bx_out (by simpa [Tree.basicsB] using hi)]
   exact Nat.testBit_lt_two_pow (Nat.lt_of_lt_of_le (h.orTo_lt s _ (Nat.le_refl _)) (Nat.pow_le_pow_right (by omega) hi))
theorem gatesB_length (t:Tree) (ev:Nat → Bool):∀ k,(t.gatesB ev k).length = t.basics.length + k
 | 0=>by simp [Tree.gatesB,Tree.basicsB]
 | k + 1=>by rw [Tree.gatesB,List.length_append,gatesB_length t ev k]; simp; omega
theorem Valid.gates_bd {t:Tree} (h:Valid t) (ev:Nat → Bool) {k:Nat} (hk:k ≤ t.gates.length):packB (t.gatesB ev k) < 2 ^ 44:=by
 refine Nat.lt_of_lt_of_le (packB_lt _) ?_
 rw [gatesB_length]
 have:=h.size; have:=h.ng'
 unfold Tree.size at this
 exact Nat.pow_le_pow_right (by omega) (by have:=h.size; unfold Tree.size at this; omega)
theorem Valid.gate_asc {t:Tree} (h:Valid t) {k:Nat} (hk:k < t.gates.length):ascB (gInputs t.gates k) = true ∧ (∀ x ∈ gInputs t.gates k,0 ≤ x ∧ x < 44):=by
 have h1:=setErr_zero (listErr_zero (h.inputs hk)).2
 have:=h.size; have:=h.ng'
 unfold Tree.size at *
 exact ⟨h1.2,fun x hx=>by have:=h1.1 x hx; omega⟩
theorem Valid.step {t:Tree} (h:Valid t) (ev:Nat → Bool) {k:Nat} (hk:k < t.gates.length) :
    packB (t.gatesB ev (k + 1)) = if (t.gt k).2 ≤ (popN (packB (t.gatesB ev k) &&& (t.gt k).1) 64:Int) then packB (t.gatesB ev k) ||| 2 ^ (t.basics.length + k) else packB (t.gatesB ev k):=by
 obtain ⟨ha,hb⟩:=h.gate_asc hk
 rw [Tree.gatesB,packB_snoc,gatesB_length,Tree.gt,pop_members ha (fun x hx=>by have:=hb x hx; omega)]
 unfold gateB
 simp only [decide_eq_true_eq]
theorem Valid.gmask_lt {t:Tree} (h:Valid t) {k:Nat} (hk:k < t.gates.length):(t.gt k).1 < 2 ^ 44 :=
 maskOf_lt (by omega) (fun x hx=>((h.gate_asc hk).2 x hx).2)
def chV (c:List Int):Value:=.agg #[.int .i64 (ix c 0),.int .i64 (ix c 1),.int .i64 (ix c 2),.int .i64 (ix c 3),.int .i64 (ix c 4),.int .i64 (ix c 5),.int .i64 (ix c 6),.int .i64 (ix c 7),.int .i64 (ix c 8),.int .i64 (ix c 9),.int .i64 (ix c 10),.int .i64 (ix c 11)]
def RGt (_:World) (c:Nat → Value) (x:Nat × Int):Prop:=c 0 = .int .i64 (x.1:Nat) ∧ c 1 = .int .i64 x.2
theorem RGt.ext (w w':World) (c:Nat → Value) (x:Nat × Int) (_:Ext w w') (h:RGt w c x):RGt w' c x:=h
def IsGts:World → Value → List (Nat × Int) → Prop:=Go.Tw.Rows 2 RGt
theorem IsGts.ext {w w':World} {v:Value} {l:List (Nat × Int)} (h:IsGts w v l) (hx:Ext w w'):IsGts w' v l:=Rows.ext RGt.ext h hx
def evV (t:Tree) (c:List Int) (fv:Value):Value:=.agg #[.int .i64 t.size,fv,.int .i64 (ix c 0),.int .i64 (ix c 1),.int .i64 (ix c 2),.int .i64 (ix c 3),.int .i64 (ix c 4),.int .i64 (ix c 5),.int .i64 (ix c 6),.int .i64 (ix c 7),.int .i64 (ix c 8),.int .i64 (ix c 9),.int .i64 (ix c 10),.int .i64 (ix c 11)]
def noV (t:Tree) (c:List Int) (fv gv:Value):Value:=.agg #[.int .i64 t.size,fv,.int .i64 (ix c 0),.int .i64 (ix c 1),.int .i64 (ix c 2),.int .i64 (ix c 3),.int .i64 (ix c 4),.int .i64 (ix c 5),.int .i64 (ix c 6),.int .i64 (ix c 7),.int .i64 (ix c 8),.int .i64 (ix c 9),.int .i64 (ix c 10),.int .i64 (ix c 11),.int .i64 t.basics.length,gv]
structure IsNo (w:World) (fv gv:Value) (t:Tree):Prop where
 fails:IsInts w fv t.masks
 gates:IsGts w gv t.gts
theorem IsNo.ext {w w':World} {fv gv:Value} {t:Tree} (h:IsNo w fv gv t) (hx:Ext w w'):IsNo w' fv gv t:=⟨h.fails.ext hx,h.gates.ext hx⟩
theorem IsGts.opened {w:World} {v:Value} {t:Tree} (h:IsGts w v t.gts) :
    ∃ A cap,v = .slice A t.gates.length cap ∧ t.gates.length ≤ 17592186043904 ∧ t.gates.length ≤ cap ∧ ∀ k,k < t.gates.length → ∃ b off,A = some ⟨b,off,none⟩ ∧ b < w.heap.size ∧
     w.cell? ⟨b,off + k * 2,none⟩ = some (.int .i64 ((t.gt k).1:Nat)) ∧ w.cell? ⟨b,off + k * 2 + 1,none⟩ = some (.int .i64 (t.gt k).2):=by
 obtain ⟨c,⟨A,cap,hv,hn,hcap,hc⟩,h2⟩:=h
 rw [gts_len] at hv hn hcap hc
 refine ⟨A,cap,hv,hn,hcap,fun k hk=>?_⟩
 obtain ⟨b,off,hA,h0⟩:=hc (k * 2) (by omega)
 obtain ⟨b',off',hA',h1⟩:=hc (k * 2 + 1) (by omega)
 rw [hA] at hA'; cases hA'
 obtain ⟨e0,e1⟩:=h2 k (by rw [gts_len]; exact hk)
 have e:t.gts[k]'(by rw [gts_len]; exact hk) = t.gt k:=by simp [Tree.gts]
 rw [e] at e0 e1
 simp only [Nat.add_zero] at e0
 refine ⟨b,off,hA,World.block_lt_of_cell? w _ h0,?_,?_⟩
 · rw [h0,e0]
 · rw [Nat.add_assoc]; exact h1.trans (congrArg some e1)
end Go.Tw
