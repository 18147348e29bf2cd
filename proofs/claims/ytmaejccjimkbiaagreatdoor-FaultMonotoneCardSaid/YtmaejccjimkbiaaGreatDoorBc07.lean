/- The nodes of a tree as sets of bits, and what they come to: no program is in sight here. The contract of the reference's States and Fails. Contracts: which nodes fail; cut sets and path sets as bits. -/
import Derived.Test.YtmaejccjimkbiaaGreatDoorBc06
import Derived.Test.YtmaejccjimkbiaaGreatDoorBc05
set_option linter.unusedVariables false
set_option linter.unusedSimpArgs false
set_option linter.constructorNameAsVariable false
namespace Go.Tw
open Go.RowKit
theorem asc_head {x:Int} {l:List Int} (h:ascB (x :: l) = true):∀ y ∈ l,x < y:=by
 induction l generalizing x with
 | nil=>intro y hy; cases hy
 | cons z l ih =>
   simp only [ascB,Bool.and_eq_true,decide_eq_true_eq] at h
   intro y hy
   rcases List.mem_cons.1 hy with rfl | hy
   · exact h.1
   · exact Int.lt_trans h.1 (ih h.2 y hy)
theorem asc_tail {x:Int} {l:List Int} (h:ascB (x :: l) = true):ascB l = true:=by
 cases l with
 | nil=>rfl
 | cons z l=>simp only [ascB,Bool.and_eq_true] at h; exact h.2
theorem count_one (a:Nat) (p:Nat → Bool):∀ k,(List.range k).countP (fun i=>p i && decide (i = a)) = if a < k then (if p a then 1 else 0) else 0
 | 0=>rfl
 | k + 1=>by
   rw [List.range_succ,List.countP_append,count_one a p k,List.countP_singleton]
   by_cases h:a < k
   · have h2:¬ k = a:=by omega
     have h3:a < k + 1:=by omega
     simp [h,h2,h3]
   · by_cases h2:k = a
     · subst h2; simp
     · have h3:¬ a < k + 1:=by omega
       simp [h,h2,h3]
theorem count_split (l:List Nat) (p q:Nat → Bool) (h:∀ i ∈ l,¬ (p i = true ∧ q i = true)):l.countP (fun i=>p i || q i) = l.countP p + l.countP q:=by
 induction l with
 | nil=>rfl
 | cons x l ih =>
   have h0:=h x (List.mem_cons_self ..)
   rw [List.countP_cons,List.countP_cons,List.countP_cons,ih (fun i hi=>h i (List.mem_cons_of_mem _ hi))]
   cases hp:p x <;> cases hq:q x <;> simp_all <;> omega
theorem count_members (k:Nat) (p:Nat → Bool):∀ l:List Int,ascB l = true → (∀ x ∈ l,0 ≤ x ∧ x < (k:Int)) → (List.range k).countP (fun i=>p i && has l i) = l.countP fun x=>p x.toNat
 | [],_,_=>by simp [has]
 | x :: l,ha,hb=>by
   have h0:=hb x (List.mem_cons_self ..)
   have e:(List.range k).countP (fun i=>p i && has (x :: l) i) = (List.range k).countP (fun i=>(p i && decide (i = x.toNat)) || (p i && has l i)):=by
    refine List.countP_congr fun i _=>?_
    rw [has_cons]
    have:(x == (i:Int)) = decide (i = x.toNat):=by
     by_cases h:x = (i:Int)
     · subst h; simp
     · rw [beq_false_of_ne h,decide_eq_false (by omega)]
    rw [this]
    cases p i <;> simp
   rw [e,count_split,count_one,if_pos (by omega),count_members k p l (asc_tail ha) (fun y hy=>hb y (List.mem_cons_of_mem _ hy)),List.countP_cons]
   · omega
   · rintro i _ ⟨h1,h2⟩
     simp only [Bool.and_eq_true,decide_eq_true_eq] at h1 h2
     have:=asc_head ha (i:Int) (has_iff.1 h2.2)
     omega
theorem pop_members {out:List Bool} {l:List Int} (ha:ascB l = true) (hb:∀ x ∈ l,0 ≤ x ∧ x < 64):popN (packB out &&& maskOf l) 64 = failing out l:=by
 unfold popN failing
 rw [← count_members 64 (fun i=>bx out i) l ha hb]
 refine List.countP_congr fun i _=>?_
 rw [Nat.testBit_and,packB_bit,maskOf_bit (fun x hx=>(hb x hx).1)]
namespace Tree
def maskAt (t:Tree) (k:Nat):Nat:=if k < t.basics.length then 2 ^ k else maskOf (cMembers t.causes (k - t.basics.length))
def masks (t:Tree):List Int:=(List.range t.size).map fun k=>(t.maskAt k:Int)
def gt (t:Tree) (k:Nat):Nat × Int:=(maskOf (gInputs t.gates k),needOf (gKind t.gates k) (gNeed t.gates k) (gInputs t.gates k).length)
def gts (t:Tree):List (Nat × Int):=(List.range t.gates.length).map t.gt
def orTo (t:Tree) (s:Nat):Nat → Nat
 | 0=>0
 | k + 1=>if s.testBit k then t.orTo s k ||| t.maskAt k else t.orTo s k
end Tree
theorem masks_len (t:Tree):t.masks.length = t.size:=by simp [Tree.masks]
theorem gts_len (t:Tree):t.gts.length = t.gates.length:=by simp [Tree.gts]
theorem masks_ix {t:Tree} {k:Nat} (h:k < t.size):ix t.masks k = (t.maskAt k:Int):=by
 rw [ix_eq (by rw [masks_len]; exact h)]; simp [Tree.masks]
theorem Valid.members {t:Tree} (h:Valid t) {k:Nat} (hk:k < t.causes.length):∀ x ∈ cMembers t.causes k,0 ≤ x ∧ x < (t.basics.length:Int):=by
 have h1:=h.event (t.basics.length + k) (by unfold Tree.size; omega)
 unfold Tree.eventErr at h1
 rw [firstErr_zero] at h1
 have h2:=h1 (if t.basics.length + k < t.basics.length then 0 else listErr (cMembers t.causes (t.basics.length + k - t.basics.length)) t.basics.length) (by simp)
 rw [if_neg (by omega),Nat.add_sub_cancel_left] at h2
 exact (setErr_zero (listErr_zero h2).2).1
theorem Valid.maskAt_lt {t:Tree} (h:Valid t) {k:Nat} (hk:k < t.size):t.maskAt k < 2 ^ t.basics.length:=by
 unfold Tree.maskAt
 split
 · rename_i h1; exact Nat.pow_lt_pow_right (by omega) h1
 · exact maskOf_lt h.nb (fun x hx=>(h.members (by unfold Tree.size at hk; omega) x hx).2)
theorem Valid.orTo_lt {t:Tree} (h:Valid t) (s:Nat):∀ k,k ≤ t.size → t.orTo s k < 2 ^ t.basics.length
 | 0,_=>Nat.two_pow_pos _
 | k + 1,hk=>by
   have ih:=h.orTo_lt s k (by omega)
   rw [Tree.orTo]
   split
   · exact Nat.or_lt_two_pow ih (h.maskAt_lt (by omega))
   · exact ih
theorem orTo_bit (t:Tree) (s i:Nat):∀ k,(t.orTo s k).testBit i = (List.range k).any fun j=>s.testBit j && (t.maskAt j).testBit i
 | 0=>by simp [Tree.orTo]
 | k + 1=>by
   rw [Tree.orTo,List.range_succ,List.any_append,← orTo_bit t s i k]
   cases h:s.testBit k
   · simp [h]
   · simp [h,Nat.testBit_or]
theorem range_any_split (a b:Nat) (p:Nat → Bool):(List.range (a + b)).any p = ((List.range a).any p || (List.range b).any fun j=>p (a + j)):=by
 rw [List.range_add,List.any_append,List.any_map]; rfl
theorem any_one (n i:Nat) (p:Nat → Bool):((List.range n).any fun j=>p j && decide (i = j)) = (decide (i < n) && p i):=by
 induction n with
 | zero=>rfl
 | succ n ih =>
   rw [List.range_succ,List.any_append,ih]
   by_cases h:i = n
   · subst h; simp
   · by_cases h2:i < n
     · have h3:i < n + 1:=by omega
       simp [h,h2,h3]
     · have h3:¬ i < n + 1:=by omega
       simp [h,h2,h3]
theorem Valid.orTo_all {t:Tree} (h:Valid t) (s:Nat):t.orTo s t.size = packB (t.basicsB (evN s)):=by
 apply Nat.eq_of_testBit_eq
 intro i
 rw [packB_bit]
 rcases Nat.lt_or_ge i t.basics.length with hi | hi
 · have e:bx (t.basicsB (evN s)) i = t.basicB (evN s) i:=by unfold bx Tree.basicsB; simp [hi]
   rw [e,orTo_bit,Tree.size,range_any_split]
   unfold Tree.basicB evN
   congr 1
   · have e2:((List.range t.basics.length).any fun j=>s.testBit j && (t.maskAt j).testBit i) = (List.range t.basics.length).any fun j=>s.testBit j && decide (i = j):=by
      rw [Bool.eq_iff_iff,List.any_eq_true,List.any_eq_true]
      constructor
      · rintro ⟨j,hj,h2⟩
        refine ⟨j,hj,?_⟩
        unfold Tree.maskAt at h2
        rwa [if_pos (List.mem_range.1 hj),bit_pow] at h2
      · rintro ⟨j,hj,h2⟩
        refine ⟨j,hj,?_⟩
        unfold Tree.maskAt
        rwa [if_pos (List.mem_range.1 hj),bit_pow]
     rw [e2,any_one,decide_eq_true hi,Bool.true_and]
   · rw [Bool.eq_iff_iff,List.any_eq_true,List.any_eq_true]
     have e3:∀ j,j < t.causes.length → (t.maskAt (t.basics.length + j)).testBit i = has (cMembers t.causes j) i:=by
      intro j hj
      unfold Tree.maskAt
      rw [if_neg (by omega),Nat.add_sub_cancel_left,maskOf_bit (fun x hx=>(h.members hj x hx).1)]
     constructor
     · rintro ⟨j,hj,h2⟩
       exact ⟨j,hj,by rwa [e3 j (List.mem_range.1 hj)] at h2⟩
     · rintro ⟨j,hj,h2⟩
       exact ⟨j,hj,by rwa [e3 j (List.mem_range.1 hj)]⟩
 · rw [bx_out (by simpa [Tree.basicsB] using hi)]
   exact Nat.testBit_lt_two_pow (Nat.lt_of_lt_of_le (h.orTo_lt s _ (Nat.le_refl _)) (Nat.pow_le_pow_right (by omega) hi))
theorem gatesB_length (t:Tree) (ev:Nat → Bool):∀ k,(t.gatesB ev k).length = t.basics.length + k
 | 0=>by simp [Tree.gatesB,Tree.basicsB]
 | k + 1=>by rw [Tree.gatesB,List.length_append,gatesB_length t ev k]; simp; omega
theorem Valid.gates_bd {t:Tree} (h:Valid t) (ev:Nat → Bool) {k:Nat} (hk:k ≤ t.gates.length):packB (t.gatesB ev k) < 2 ^ 44:=by
 refine Nat.lt_of_lt_of_le (packB_lt _) ?_
 rw [gatesB_length]
 have:=h.size; have:=h.ng'
 unfold Tree.size at this
 exact Nat.pow_le_pow_right (by omega) (by have:=h.size; unfold Tree.size at this; omega)
theorem Valid.gate_asc {t:Tree} (h:Valid t) {k:Nat} (hk:k < t.gates.length):ascB (gInputs t.gates k) = true ∧ (∀ x ∈ gInputs t.gates k,0 ≤ x ∧ x < 44):=by
 have h1:=setErr_zero (listErr_zero (h.inputs hk)).2
 have:=h.size; have:=h.ng'
 unfold Tree.size at *
 exact ⟨h1.2,fun x hx=>by have:=h1.1 x hx; omega⟩
theorem Valid.step {t:Tree} (h:Valid t) (ev:Nat → Bool) {k:Nat} (hk:k < t.gates.length) :
    packB (t.gatesB ev (k + 1)) = if (t.gt k).2 ≤ (popN (packB (t.gatesB ev k) &&& (t.gt k).1) 64:Int) then packB (t.gatesB ev k) ||| 2 ^ (t.basics.length + k) else packB (t.gatesB ev k):=by
 obtain ⟨ha,hb⟩:=h.gate_asc hk
 rw [Tree.gatesB,packB_snoc,gatesB_length,Tree.gt,pop_members ha (fun x hx=>by have:=hb x hx; omega)]
 unfold gateB
 simp only [decide_eq_true_eq]
theorem Valid.gmask_lt {t:Tree} (h:Valid t) {k:Nat} (hk:k < t.gates.length):(t.gt k).1 < 2 ^ 44 :=
 maskOf_lt (by omega) (fun x hx=>((h.gate_asc hk).2 x hx).2)
def chV (c:List Int):Value:=.agg #[.int .i64 (ix c 0),.int .i64 (ix c 1),.int .i64 (ix c 2),.int .i64 (ix c 3),.int .i64 (ix c 4),.int .i64 (ix c 5),.int .i64 (ix c 6),.int .i64 (ix c 7),.int .i64 (ix c 8),.int .i64 (ix c 9),.int .i64 (ix c 10),.int .i64 (ix c 11)]
def RGt (_:World) (c:Nat → Value) (x:Nat × Int):Prop:=c 0 = .int .i64 (x.1:Nat) ∧ c 1 = .int .i64 x.2
theorem RGt.ext (w w':World) (c:Nat → Value) (x:Nat × Int) (_:Ext w w') (h:RGt w c x):RGt w' c x:=h
def IsGts:World → Value → List (Nat × Int) → Prop:=Go.Tw.Rows 2 RGt
theorem IsGts.ext {w w':World} {v:Value} {l:List (Nat × Int)} (h:IsGts w v l) (hx:Ext w w'):IsGts w' v l:=Rows.ext RGt.ext h hx
def evV (t:Tree) (c:List Int) (fv:Value):Value:=.agg #[.int .i64 t.size,fv,.int .i64 (ix c 0),.int .i64 (ix c 1),.int .i64 (ix c 2),.int .i64 (ix c 3),.int .i64 (ix c 4),.int .i64 (ix c 5),.int .i64 (ix c 6),.int .i64 (ix c 7),.int .i64 (ix c 8),.int .i64 (ix c 9),.int .i64 (ix c 10),.int .i64 (ix c 11)]
def noV (t:Tree) (c:List Int) (fv gv:Value):Value:=.agg #[.int .i64 t.size,fv,.int .i64 (ix c 0),.int .i64 (ix c 1),.int .i64 (ix c 2),.int .i64 (ix c 3),.int .i64 (ix c 4),.int .i64 (ix c 5),.int .i64 (ix c 6),.int .i64 (ix c 7),.int .i64 (ix c 8),.int .i64 (ix c 9),.int .i64 (ix c 10),.int .i64 (ix c 11),.int .i64 t.basics.length,gv]
structure IsNo (w:World) (fv gv:Value) (t:Tree):Prop where
 fails:IsInts w fv t.masks
 gates:IsGts w gv t.gts
theorem IsNo.ext {w w':World} {fv gv:Value} {t:Tree} (h:IsNo w fv gv t) (hx:Ext w w'):IsNo w' fv gv t:=⟨h.fails.ext hx,h.gates.ext hx⟩
theorem IsGts.opened {w:World} {v:Value} {t:Tree} (h:IsGts w v t.gts) :
    ∃ A cap,v = .slice A t.gates.length cap ∧ t.gates.length ≤ 17592186043904 ∧ t.gates.length ≤ cap ∧ ∀ k,k < t.gates.length → ∃ b off,A = some ⟨b,off,none⟩ ∧ b < w.heap.size ∧
     w.cell? ⟨b,off + k * 2,none⟩ = some (.int .i64 ((t.gt k).1:Nat)) ∧ w.cell? ⟨b,off + k * 2 + 1,none⟩ = some (.int .i64 (t.gt k).2):=by
 obtain ⟨c,⟨A,cap,hv,hn,hcap,hc⟩,h2⟩:=h
 rw [gts_len] at hv hn hcap hc
 refine ⟨A,cap,hv,hn,hcap,fun k hk=>?_⟩
 obtain ⟨b,off,hA,h0⟩:=hc (k * 2) (by omega)
 obtain ⟨b',off',hA',h1⟩:=hc (k * 2 + 1) (by omega)
 rw [hA] at hA'; cases hA'
 obtain ⟨e0,e1⟩:=h2 k (by rw [gts_len]; exact hk)
 have e:t.gts[k]'(by rw [gts_len]; exact hk) = t.gt k:=by simp [Tree.gts]
 rw [e] at e0 e1
 simp only [Nat.add_zero] at e0
 refine ⟨b,off,hA,World.block_lt_of_cell? w _ h0,?_,?_⟩
 · rw [h0,e0]
 · rw [Nat.add_assoc]; exact h1.trans (congrArg some e1)
end Go.Tw
namespace Go.Proofs
open Go.RowKit Go.Tw Go.Flow
theorem Tryz.info4:(Tryz.prog.info? 4).map (fun i=>(i.zero,i.size,i.bytes)) = some (some (.bool false),1,1):=by kernel_rfl
end Go.Proofs
namespace Go.Proofs
open Go.RowKit Go.Tw Go.Flow
theorem bit_and1 {s:Nat} (hs:s < 2 ^ 62) (i:Nat):(bits .and .i64 ((s:Int) / 2 ^ i) 1 == 1) = s.testBit i:=by
 have h1:(s:Int) / 2 ^ i = ((s / 2 ^ i:Nat):Int):=by simp
 have h2:bits .and .i64 ((s / 2 ^ i:Nat):Int) 1 = ((s / 2 ^ i &&& 1:Nat):Int):=and64 (a:=s / 2 ^ i) (b:=1) (Nat.lt_of_le_of_lt (Nat.div_le_self _ _) hs) (by decide)
 rw [h1,h2,Nat.and_one_is_mod,bitAt]
 have h3:s / 2 ^ i % 2 = 0 ∨ s / 2 ^ i % 2 = 1:=by omega
 rcases h3 with h | h <;> rw [h] <;> rfl
set_option maxRecDepth 100000 in
set_option maxHeartbeats 1000000 in
theorem failing_any (w:World) (fv gv:Value) (t:Tree) (c:List Int) (s:Nat) (hv:Valid t) (hs:s < 2 ^ t.size) (hn:IsNo w fv gv t) :
    Calls Tryz.prog 120 #[noV t c fv gv,.int .i64 s] w fun e w'=>e = .returned (.int .i64 (packB (t.states (evN s)):Nat)) ∧ Ext w w':=by
 obtain ⟨hf,hg⟩:=hn
 obtain ⟨A,cap,rfl,hl1,hcap,hc⟩:=hf.opened
 obtain ⟨A2,cap2,rfl,hl2,hcap2,hc2⟩:=hg.opened
 rw [masks_len] at hl1 hcap hc
 have hsz:=hv.size
 have hng:=hv.ng'
 have hnb:=hv.nb
 have HV:=Lib.hid hv
 have HC:=Lib.hid hc
 have HC2:=Lib.hid hc2
 have hsb:t.basics.length ≤ 12:=by unfold Tree.size at hsz; omega
 have hs12:s < 2 ^ 62:=Nat.lt_of_lt_of_le hs (Nat.pow_le_pow_right (by omega) (by omega))
 have HS:=Lib.hid hs12
 clear hf hg hc hc2 hv hs hs12
 unfold noV
 rw [masks_len]
 go_enter Tryz.func120,Tryz.ntmps120
 go_wp2
 obtain ⟨W,hW⟩:∃ W,w.alloc (.cells #[.int .i64 t.size,.slice A t.size cap,.int .i64 (ix c 0),.int .i64 (ix c 1),.int .i64 (ix c 2),.int .i64 (ix c 3),.int .i64 (ix c 4),.int .i64 (ix c 5),.int .i64 (ix c 6),.int .i64 (ix c 7),.int .i64 (ix c 8),.int .i64 (ix c 9),.int .i64 (ix c 10),.int .i64 (ix c 11),.int .i64 t.basics.length,.slice A2 t.gates.length cap2] 121) = W:=⟨_,rfl⟩
 have hxW:Ext w W:=by rw [← hW]; exact Ext.box _ _
 have n14:W.cell? ⟨w.heap.size,14,none⟩ = some (.int .i64 t.basics.length):=by rw [← hW]; exact cell_new _ _ _ 14
 have n15:W.cell? ⟨w.heap.size,15,none⟩ = some (.slice A2 t.gates.length cap2):=by rw [← hW]; exact cell_new _ _ _ 15
 rw [hW]
 clear hW
 go_loop [5,14] (fun o i=>∃ (k:Nat),k ≤ t.size ∧ i = .int .i64 k ∧ o = .int .i64 (t.orTo s k:Nat)) (fun _ i=>t.size - (intOf i).toNat)
 case atStart=>exact ⟨0,Nat.zero_le _,rfl,rfl⟩
 case round =>
  obtain ⟨k,hk,rfl,rfl⟩:=hrel
  by_cases hlt:k < t.size
  · obtain ⟨b,off,rfl,hcell⟩:=HC.out k hlt
    rw [masks_ix hlt] at hcell
    replace hcell:=hxW.cell hcell
    have hm:=HV.out.maskAt_lt hlt
    have ho:=HV.out.orTo_lt s k hk
    have hp12:(2:Nat) ^ t.basics.length ≤ 2 ^ 12:=Nat.pow_le_pow_right (by omega) hsb
    have hor:=or64 (a:=t.orTo s k) (b:=t.maskAt k) (by omega) (by omega)
    have HO:Hid (t.orTo s (k + 1) = if s.testBit k then t.orTo s k ||| t.maskAt k else t.orTo s k):=by exact (rfl:t.orTo s (k + 1) = _)
    have hb1:=bit_and1 HS.out k
    obtain ⟨o,he⟩:∃ o,t.orTo s k = o:=⟨_,rfl⟩
    obtain ⟨m,hme⟩:∃ m,t.maskAt k = m:=⟨_,rfl⟩
    rw [he,hme] at hor HO
    rw [hme] at hcell
    rw [he]
    clear he hme hm ho hp12
    cases hb:s.testBit k with
    | true =>
      rw [hb] at HO hb1
      clear hb
      go_wp2
      go_round
      case rel=>exact ⟨k + 1,by omega,by go_num,by rw [HO.out]; rfl⟩
      case measure=>simp [intOf]; omega
    | false =>
      rw [hb] at HO hb1
      clear hb
      go_wp2
      go_round
      case rel=>exact ⟨k + 1,by omega,by go_num,by rw [HO.out]; rfl⟩
      case measure=>simp [intOf]; omega
  · have e0:t.orTo s k = packB (t.gatesB (evN s) 0):=by rw [show k = t.size from by omega,HV.out.orTo_all]; rfl
    rw [e0]
    clear e0
    go_wp2
    go_loopw [5,31] (fun o i wr=>∃ (g:Nat),g ≤ t.gates.length ∧ i = .int .i64 g ∧ o = .int .i64 (packB (t.gatesB (evN s) g):Nat) ∧ Ext W wr) (fun _ i _=>t.gates.length - (intOf i).toNat)
    case atStart=>exact ⟨0,Nat.zero_le _,rfl,rfl,Ext.refl _⟩
    case round =>
     obtain ⟨g,hg,rfl,rfl,hx⟩:=hrel
     replace n14:=hx.cell n14
     replace n15:=hx.cell n15
     by_cases hlg:g < t.gates.length
     · obtain ⟨b,off,rfl,hbl,g0,g1⟩:=HC2.out g hlg
       replace g0:=hx.cell (hxW.cell g0)
       replace g1:=hx.cell (hxW.cell g1)
       have hm:=HV.out.gmask_lt hlg
       have ho:=HV.out.gates_bd (evN s) hg
       have HST:=Lib.hid (HV.out.step (evN s) hlg)
       have hand:=and64 (a:=packB (t.gatesB (evN s) g)) (b:=(t.gt g).1) (by omega) (by omega)
       have hor:=or_step (a:=packB (t.gatesB (evN s) g)) (n:=t.basics.length + g) (by omega) (by omega)
       obtain ⟨o,he⟩:∃ o,packB (t.gatesB (evN s) g) = o:=⟨_,rfl⟩
       obtain ⟨m,hme⟩:∃ m,(t.gt g).1 = m:=⟨_,rfl⟩
       obtain ⟨q,hq⟩:∃ q,(t.gt g).2 = q:=⟨_,rfl⟩
       rw [he,hme,hq] at HST
       rw [he,hme] at hand
       rw [he] at ho hor
       rw [hme] at g0 hm
       rw [hq] at g1
       rw [he]
       clear he hme hq hbl
       have hlt64:o &&& m < 2 ^ 64:=Nat.lt_of_le_of_lt Nat.and_le_right (by omega)
       obtain ⟨r,hr⟩:∃ r,o &&& m = r:=⟨_,rfl⟩
       rw [hr] at HST hand hlt64
       clear hr
       obtain ⟨p,hp⟩:∃ p,popN r 64 = p:=⟨_,rfl⟩
       rw [hp] at HST
       have HON:Hid (∀ w',Calls Tryz.prog 157 #[.int .u64 r] w' fun e w''=>e = .returned (.int .i64 (p:Nat)) ∧ w' = w''):=by
        exact (by intro w'; rw [← hp]; exact Ones_any w' r hlt64:∀ w',Calls Tryz.prog 157 #[.int .u64 r] w' fun e w''=>e = .returned (.int .i64 (p:Nat)) ∧ w' = w'')
       have hwr:IntKind.u64.wrap (r:Int) = (r:Int):=wrapUN (by omega)
       clear hp hlt64 hm ho
       go_light
       go_wp2
       obtain ⟨W2,hW2⟩:∃ W2,wr.alloc (.cells #[.int .i64 m,.int .i64 q] 181) = W2:=⟨_,rfl⟩
       have hx2:Ext wr W2:=by rw [← hW2]; exact Ext.box _ _
       have k0:W2.cell? ⟨wr.heap.size,0,none⟩ = some (.int .i64 m):=by rw [← hW2]; exact cell_new _ _ _ 0
       have k1:W2.cell? ⟨wr.heap.size,1,none⟩ = some (.int .i64 q):=by rw [← hW2]; exact cell_new _ _ _ 1
       rw [hW2]
       replace n14:=hx2.cell n14
       have hxr:=hx.trans hx2
       clear hW2
       refine Flow.region0 [.plain,.plain,.world,.plain,.world,.world,.plain,.world,.plain] [0,1,2,3,4,5,6,7,8] [[],[],[1],[0,2],[3],[4],[],[6],[5,7]]
        [.is 0 (fun v=>.int .i64 (o:Nat)),.is 1 (fun v=>.pointer (some ⟨wr.heap.size,0,none⟩)),.is 2 (fun v=>.int .i64 (m:Nat)),.is 3 (fun v=>.int .i64 (r:Nat)),.is 4 (fun v=>.int .u64 (r:Nat)),.is 5 (fun v=>.int .i64 (p:Nat)),.is 6 (fun v=>.pointer (some ⟨wr.heap.size,1,none⟩)),.is 7 (fun v=>.int .i64 q),.is 8 (fun v=>.bool (decide (q ≤ (p:Int))))]
        (by kernel_rfl) rfl (by kernel_rfl) ⟨?g0,?g1,?g2,?g3,?g4,?g5,?g6,?g7,?g8,trivial⟩ ?post
       case g0 =>
        intro v w1 hx
        have k0:=hx.cell k0
        have k1:=hx.cell k1
        refine ⟨_,fun w=>?_,rfl⟩
        go_simp
       case g1 =>
        intro v w1 hx
        have k0:=hx.cell k0
        have k1:=hx.cell k1
        refine ⟨_,fun w=>?_,rfl⟩
        go_simp
       case g2 =>
        intro v w1 hx (q1:v 1 = .pointer (some ⟨wr.heap.size,0,none⟩))
        have k0:=hx.cell k0
        have k1:=hx.cell k1
        intro K hK
        go_simp
        exact hK _ _ (Ext.refl _) rfl
       case g3 =>
        intro v w1 hx (q0:v 0 = .int .i64 (o:Nat)) (q2:v 2 = .int .i64 (m:Nat))
        have k0:=hx.cell k0
        have k1:=hx.cell k1
        refine ⟨_,fun w=>?_,rfl⟩
        go_simp
       case g4 =>
        intro v w1 hx (q3:v 3 = .int .i64 (r:Nat))
        have k0:=hx.cell k0
        have k1:=hx.cell k1
        intro K hK
        go_simp
        exact hK _ _ (Ext.refl _) rfl
       case g5 =>
        intro v w1 hx (q4:v 4 = .int .u64 (r:Nat))
        have k0:=hx.cell k0
        have k1:=hx.cell k1
        intro K hK
        go_simp
        refine gives_call (HON.out _) ?_
        rintro e w2 ⟨rfl,rfl⟩
        exact ⟨_,rfl,hK _ _ (Ext.refl _) rfl⟩
       case g6 =>
        intro v w1 hx
        have k0:=hx.cell k0
        have k1:=hx.cell k1
        refine ⟨_,fun w=>?_,rfl⟩
        go_simp
       case g7 =>
        intro v w1 hx (q6:v 6 = .pointer (some ⟨wr.heap.size,1,none⟩))
        have k0:=hx.cell k0
        have k1:=hx.cell k1
        intro K hK
        go_simp
        exact hK _ _ (Ext.refl _) rfl
       case g8 =>
        intro v w1 hx (q5:v 5 = .int .i64 (p:Nat)) (q7:v 7 = .int .i64 q)
        have k0:=hx.cell k0
        have k1:=hx.cell k1
        refine ⟨_,fun w=>?_,rfl⟩
        go_simp
       case post =>
        intro v w1 hx (q0:v 0 = .int .i64 (o:Nat)) (q1:v 1 = .pointer (some ⟨wr.heap.size,0,none⟩)) (q2:v 2 = .int .i64 (m:Nat)) (q3:v 3 = .int .i64 (r:Nat)) (q4:v 4 = .int .u64 (r:Nat)) (q5:v 5 = .int .i64 (p:Nat)) (q6:v 6 = .pointer (some ⟨wr.heap.size,1,none⟩)) (q7:v 7 = .int .i64 q) (q8:v 8 = .bool (decide (q ≤ (p:Int))))
        simp only [Flow.All,Flow.acts,Act.put]
        go_simp
        replace n14:=((Ext.refl W2).drew.trans hx).cell n14
        by_cases hd:q ≤ (p:Int)
        · rw [if_pos hd] at HST
          rw [decide_eq_true hd]
          clear hd
          go_wp2
          go_roundw
          case rel=>exact ⟨g + 1,by omega,by go_num,by rw [HST.out],hxr.trans ((Ext.refl W2).drew.trans hx)⟩
          case measure=>simp [intOf]; omega
        · rw [if_neg hd] at HST
          rw [decide_eq_false hd]
          clear hd
          go_wp2
          go_roundw
          case rel=>exact ⟨g + 1,by omega,by go_num,by rw [HST.out],hxr.trans ((Ext.refl W2).drew.trans hx)⟩
          case measure=>simp [intOf]; omega
     · go_wp2
       go_ret
       exact ⟨ret_int (by rw [show g = t.gates.length from by omega]; rfl),hxW.trans hx⟩
end Go.Proofs
