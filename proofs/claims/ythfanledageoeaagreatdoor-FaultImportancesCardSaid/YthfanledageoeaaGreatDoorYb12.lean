/- Contracts: the reference's Cuts, Paths, Single, CheckSet, CheckSets, contains, CheckCuts. Contracts: the reference's CheckSets, CheckCuts, chances, weight. The contract of the reference's weight. The contract of the reference's Lowest. Contracts: chances with others in their place, probabilities. Contracts: probabilities of the reference. -/
import Derived.Test.YthfanledageoeaaGreatDoorYb11
set_option linter.unusedVariables false
set_option linter.unusedSimpArgs false
set_option linter.constructorNameAsVariable false
namespace Go.Proofs
open Go.RowKit Go.Tw Go.Flow
set_option maxHeartbeats 400000 in
theorem Cuts_any (w:World) (v:Value) (t:Tree) (hfit:Fit t) (hn:1 ≤ t.nodes) (hs:t.size ≤ 12) (ht:IsTree w v t) :
    Calls Tryz.prog 16 #[v] w fun e w'=>∃ x,e = .returned x ∧ IsIntss w' x (t.sets false) ∧ Ext w w':=by
 obtain ⟨a,b,c,rfl,h3⟩:=ht
 have hw:=Ext.box w (.cells #[a,b,c] 26)
 have HT:=Lib.hid (h3.ext hw)
 have HF:=Lib.hid hfit
 clear h3 hfit
 go_enter Tryz.func16,Tryz.ntmps16
 go_wp2_with fail
 refine (sets_any _ _ t false HF.out hn hs ⟨_,_,_,rfl,HT.out⟩).mono ?_
 rintro e w1 ⟨x,rfl,h,hx⟩
 go_wp2
 go_ret
 exact ⟨_,rfl,h,hw.trans hx⟩
def singleTo (t:Tree) (n:Nat):List Int:=((List.range n).map Int.ofNat).filter fun x=>t.fails (evL [x])
theorem singleTo_succ (t:Tree) (n:Nat):singleTo t (n + 1) = singleTo t n ++ if t.fails (evL [(n:Int)]) then [(n:Int)] else []:=by
 unfold singleTo
 rw [List.range_succ,List.map_append,List.filter_append]
 cases h:t.fails (evL [(n:Int)]) <;> simp [h]
theorem singleTo_len (t:Tree) (n:Nat):(singleTo t n).length ≤ n:=by
 unfold singleTo; exact Nat.le_trans (List.length_filter_le _ _) (by simp)
end Go.Proofs
namespace Go.Proofs
open Go.RowKit Go.Tw Go.Flow
def chancesTo (t:Tree) (n:Nat):List Int:=(List.range n).map t.chanceAt
theorem chancesTo_succ (t:Tree) (n:Nat):chancesTo t (n + 1) = chancesTo t n ++ [t.chanceAt n]:=by unfold chancesTo; rw [List.range_succ,List.map_append]; rfl
theorem chancesTo_len (t:Tree) (n:Nat):(chancesTo t n).length = n:=by simp [chancesTo]
set_option maxRecDepth 100000 in
set_option maxHeartbeats 400000 in
theorem chances_any (w:World) (v:Value) (t:Tree) (hs:t.size ≤ 100000) (ht:IsTree w v t) :
    Calls Tryz.prog 95 #[v] w fun e w'=>∃ x,e = .returned x ∧ IsInts w' x t.chances ∧ Ext w w':=by
 obtain ⟨i0,hi,hz0,hz1,hz2⟩:=info_parts Tryz.info3
 obtain ⟨a,b,c,rfl,h3⟩:=ht
 have hw:=Ext.box w (.cells #[a,b,c] 26)
 have c0:=cell_new w #[a,b,c] 26 0
 have c1:=cell_new w #[a,b,c] 26 1
 have c2:=cell_new w #[a,b,c] 26 2
 have HT:=Lib.hid (h3.ext hw)
 clear h3
 go_enter Tryz.func95,Tryz.ntmps95
 go_wp2
 obtain ⟨W,hW⟩:∃ W,w.alloc (.cells #[a,b,c] 26) = W:=⟨_,rfl⟩
 rw [hW] at c0 c1 c2 hw HT ⊢
 simp only [List.getElem?_toArray,List.getElem?_cons_zero,List.getElem?_cons_succ] at c0 c1 c2
 clear hW
 go_loopw [3,4] (fun o i wr=>∃ (k:Nat),k ≤ t.size ∧ i = .int .i64 k ∧ Own1 wr W.heap.size 3 (.int .i64) o (chancesTo t k) ∧ Ext W wr) (fun _ i _=>t.size - (intOf i).toNat)
 case atStart=>exact ⟨0,Nat.zero_le _,rfl,Own1.nil _ _ _ _,Ext.refl _⟩
 case round =>
  obtain ⟨k,hk,rfl,hown,hx⟩:=hrel
  have d0:=hx.cell c0
  have d1:=hx.cell c1
  have d2:=hx.cell c2
  clear c0 c1 c2
  have hle:=chancesTo_len t k
  go_wp2_with fail
  refine (Size_any _ _ t ⟨_,_,_,rfl,HT.out.ext hx⟩).mono ?_
  rintro e w1 ⟨rfl,hx1⟩
  replace hown:=hown.below hx1
  replace hx:=hx.trans hx1
  replace d0:=hx1.cell d0
  replace d1:=hx1.cell d1
  replace d2:=hx1.cell d2
  clear hx1
  by_cases hlt:k < t.size
  · go_wp2_with fail
    refine (chance_any _ _ t k ⟨_,_,_,rfl,HT.out.ext hx⟩ hlt).mono ?_
    rintro e w2 ⟨rfl,hx2⟩
    replace hown:=hown.below hx2
    replace hx:=hx.trans hx2
    clear hx2 d0 d1 d2
    have hle2:(chancesTo t k).length ≤ 100000:=by omega
    have HLE:=Lib.hid hle; clear hle
    go_wp2_with (at_builtin; refine wpList_append_own _ rfl _ _ 39 rfl (W.heap.size) 3 i0 (.int .i64 0) 1 8 Tryz.underlying39 hi hz0 hz1 hz2 rfl (by decide) _ _ _ rfl (World.ownsRow.alloc hown _) ⟨w2.heap.size,0,none⟩ 1 1 [.int .i64 (t.chanceAt k)] rfl rfl ?_ ?_ ?_ ?_ ?_ ?_; exact one_new _ _ _; (focus (simp [Value.oneCell'])); (focus (unfold maxLen; omega)); (focus omega); (focus (have:=hx.size; simp at this ⊢; omega)); intro v' w1 hown' hgrow _)
    have hx2:=ext_grown hx hown (Nat.le_refl _) hgrow
    go_roundw
    case rel=>exact ⟨k + 1,by omega,by go_num,by rw [chancesTo_succ]; exact Own1.snoc hown',hx2⟩
    case measure=>simp [intOf]; omega
  · have HLE:=Lib.hid hle; clear hle
    go_wp2
    go_ret
    exact ⟨_,rfl,by rw [show t.chances = chancesTo t k from by rw [show k = t.size from by omega]; rfl]; exact hown.ints (by have:=HLE.out; omega),hw.trans hx⟩
end Go.Proofs
namespace Go.Proofs
open Go.RowKit Go.Tw Go.Flow
theorem evL_bits {s:Nat} (hs:s < 65536):evL (bitsOf s) = evN s:=by
 funext i
 unfold evL evN has bitsOf
 rw [Bool.eq_iff_iff]
 simp only [List.contains_iff_mem,List.mem_map,List.mem_filter,List.mem_range]
 constructor
 · rintro ⟨a,⟨_,h⟩,he⟩
   have:a = i:=by have:(a:Int) = (i:Int):=he; omega
   rw [← this]; exact h
 · intro h
   refine ⟨i,⟨?_,h⟩,rfl⟩
   rcases Nat.lt_or_ge i 16 with h' | h'
   · exact h'
   · rw [Nat.testBit_lt_two_pow (Nat.lt_of_lt_of_le hs (Nat.pow_le_pow_right (n:=2) (by omega) h'))] at h
     cases h
structure Small (c:List Int):Prop where
 len:c.length ≤ 12
 range:∀ x ∈ c,0 ≤ x ∧ x ≤ 16
theorem Small.ix {c:List Int} (h:Small c) {j:Nat} (hj:j < c.length):0 ≤ ix c j ∧ ix c j ≤ 16:=by
 rw [ix_eq hj]; exact h.range _ (List.getElem_mem hj)
theorem Small.factor {c:List Int} (h:Small c) (s:Nat) {j:Nat} (hj:j < c.length):0 ≤ factor c s j ∧ factor c s j ≤ 16:=by
 have:=h.ix hj
 unfold Tw.factor
 split <;> omega
theorem partTo_bd {c:List Int} (h:Small c) (s:Nat):∀ j,j ≤ c.length → 0 ≤ partTo c s j ∧ partTo c s j ≤ 16 ^ j
 | 0,_=>by simp [partTo]
 | j + 1,hj=>by
   obtain ⟨h1,h2⟩:=partTo_bd h s j (by omega)
   obtain ⟨h3,h4⟩:=h.factor s (show j < c.length by omega)
   unfold partTo
   refine ⟨Int.mul_nonneg h1 h3,?_⟩
   rw [Int.pow_succ]
   exact Int.mul_le_mul h2 h4 h3 (Int.le_trans h1 h2)
theorem pow16_le {j:Nat} (h:j ≤ 12):(16:Int) ^ j ≤ 281474976710656:=by
 have:(16:Nat) ^ j ≤ 16 ^ 12:=Nat.pow_le_pow_right (by omega) h
 have h2:((16 ^ j:Nat):Int) ≤ ((16 ^ 12:Nat):Int):=by exact_mod_cast this
 simpa using h2
theorem partTo_le {c:List Int} (h:Small c) (s:Nat) {j:Nat} (hj:j ≤ c.length):0 ≤ partTo c s j ∧ partTo c s j ≤ 281474976710656:=by
 have:=partTo_bd h s j hj
 have h2:=pow16_le (show j ≤ 12 from Nat.le_trans hj h.len)
 omega
theorem weightTo_bd {c:List Int} (h:Small c) (t:Tree):∀ s,0 ≤ t.weightTo c s ∧ t.weightTo c s ≤ s * 281474976710656
 | 0=>by simp [Tree.weightTo]
 | s + 1=>by
   have:=weightTo_bd h t s
   have h2:=partTo_le h s (Nat.le_refl c.length)
   unfold Tree.weightTo Tw.partOf
   split <;> omega
set_option maxRecDepth 100000 in
set_option maxHeartbeats 2000000 in
theorem weight_any (w:World) (v u:Value) (t:Tree) (c:List Int) (hfit:Fit t) (hn:1 ≤ t.nodes) (hs:t.size ≤ 12) (hc:Small c) (ht:IsTree w v t) (hl:IsInts w u c) :
    Calls Tryz.prog 104 #[v,u] w fun e w'=>e = .returned (.int .i64 (t.weight c)) ∧ Ext w w':=by
 obtain ⟨a,b,d,rfl,h3⟩:=ht
 have hw:=Ext.box w (.cells #[a,b,d] 26)
 have c0:=cell_new w #[a,b,d] 26 0
 have c1:=cell_new w #[a,b,d] 26 1
 have c2:=cell_new w #[a,b,d] 26 2
 have HT:=Lib.hid (h3.ext hw)
 have HF:=Lib.hid hfit
 have HCS:=Lib.hid hc
 obtain ⟨A,cap,rfl,hl1,hcap,hcell⟩:=hl.opened
 have hlc:=hc.len
 have hp2:=pow2_le hs
 clear h3 hl hfit hc
 go_enter Tryz.func104,Tryz.ntmps104
 go_wp2
 obtain ⟨W,hW⟩:∃ W,w.alloc (.cells #[a,b,d] 26) = W:=⟨_,rfl⟩
 rw [hW] at c0 c1 c2 hw HT ⊢
 simp only [List.getElem?_toArray,List.getElem?_cons_zero,List.getElem?_cons_succ] at c0 c1 c2
 clear hW
 go_loopw [5,6] (fun o i wr=>∃ (k:Nat) (x:Int),k ≤ pow2 t.size ∧ i = .int .i64 k ∧ o = .int .i64 x ∧ x = t.weightTo c k ∧ Ext W wr) (fun _ i _=>pow2 t.size - (intOf i).toNat)
 case atStart=>exact ⟨0,0,Nat.zero_le _,rfl,rfl,rfl,Ext.refl _⟩
 case round =>
  obtain ⟨k,x,hk,rfl,rfl,hxe,hx⟩:=hrel
  have hbx:=weightTo_bd HCS.out t k
  rw [← hxe] at hbx
  have HX:=Lib.hid hxe
  have d0:=hx.cell c0
  have d1:=hx.cell c1
  have d2:=hx.cell c2
  clear c0 c1 c2 hxe
  go_wp2_with fail
  refine (Size_any _ _ t ⟨_,_,_,rfl,HT.out.ext hx⟩).mono ?_
  rintro e w1 ⟨rfl,hx1⟩
  go_wp2_with fail
  refine (power2_any _ _ hs).mono ?_
  rintro e w1' ⟨rfl,rfl⟩
  replace hx:=hx.trans hx1
  replace d0:=hx1.cell d0
  replace d1:=hx1.cell d1
  replace d2:=hx1.cell d2
  clear hx1
  by_cases hlt:k < pow2 t.size
  · skip
    go_wp2_with fail
    refine (Members_any _ k (by omega)).mono ?_
    rintro e w2 ⟨lv,rfl,hlv,hx2⟩
    replace d0:=hx2.cell d0
    replace d1:=hx2.cell d1
    replace d2:=hx2.cell d2
    have HLV:=Lib.hid hlv
    clear hlv
    go_wp2_with fail
    refine (Fails_any _ _ _ t (bitsOf k) HF.out hn ⟨_,_,_,rfl,HT.out.ext (hx.trans hx2)⟩ HLV.out).mono ?_
    rintro e w3 ⟨rfl,hx3⟩
    have hx':=(hx.trans hx2).trans hx3
    have HLV3:=Lib.hid (HLV.out.ext hx3)
    have hst:t.weightTo c (k + 1) = t.weightTo c k + if t.fails (evL (bitsOf k)) then partOf c k else 0:=by rw [evL_bits (by omega)]; rfl
    have HST:=Lib.hid hst
    clear hx d0 d1 d2 hx2 hx3 hst HLV
    cases hm:t.fails (evL (bitsOf k)) with
    | false =>
      go_wp2
      go_roundw
      case rel=>exact ⟨k + 1,x,by omega,by go_num,rfl,by rw [HST.out,hm,HX.out]; simp,hx'⟩
      case measure=>simp [intOf]; omega
    | true =>
      go_wp2
      go_loop [8,9] (fun y i=>∃ (j:Nat) (z:Int),j ≤ c.length ∧ i = .int .i64 j ∧ y = .int .i64 z ∧ z = partTo c k j) (fun _ i=>c.length - (intOf i).toNat)
      case atStart=>exact ⟨0,1,Nat.zero_le _,rfl,rfl,rfl⟩
      case round =>
       obtain ⟨j,z,hj,rfl,rfl,hz⟩:=hrel
       have hbz:=partTo_le HCS.out k hj
       rw [← hz] at hbz
       have HZ:=Lib.hid hz
       clear hz
       by_cases hlj:j < c.length
       · obtain ⟨b1,off,rfl,hce⟩:=hcell j hlj
         replace hce:=hx'.cell (hw.cell hce)
         have hfb:=HCS.out.factor k hlj
         have hnext:partTo c k (j + 1) = z * factor c k j:=by rw [partTo,HZ.out]
         have hbn:=partTo_le HCS.out k (show j + 1 ≤ c.length by omega)
         rw [hnext] at hbn
         have hib:=HCS.out.ix hlj
         have hbit:has (bitsOf k) (j:Int) = k.testBit j:=congrFun (evL_bits (s:=k) (by omega)) j
         have HBI:=Lib.hid hbit
         have HNX:=Lib.hid hnext
         clear hcell hnext hbit
         cases hb:k.testBit j with
         | true =>
           have hff:factor c k j = ix c j:=by unfold factor; rw [hb]; rfl
           rw [hff] at hbn
           obtain ⟨y,hy⟩:∃ y,z * ix c j = y:=⟨_,rfl⟩
           rw [hy] at hbn
           have HY:=Lib.hid hff
           go_wp2_with (go_at_call 97; refine (HasInt_any _ _ _ _ HLV3.out).mono ?_; rintro e w' ⟨rfl,rfl⟩; rw [HBI.out,hb])
           go_round
           case rel=>exact ⟨j + 1,y,by omega,by go_num,rfl,by rw [HNX.out,HY.out,hy]⟩
           case measure=>simp [intOf]; omega
         | false =>
           have hff:factor c k j = 16 - ix c j:=by unfold factor; rw [hb]; rfl
           rw [hff] at hbn
           obtain ⟨y,hy⟩:∃ y,z * (16 - ix c j) = y:=⟨_,rfl⟩
           rw [hy] at hbn
           have HY:=Lib.hid hff
           go_wp2_with (go_at_call 97; refine (HasInt_any _ _ _ _ HLV3.out).mono ?_; rintro e w' ⟨rfl,rfl⟩; rw [HBI.out,hb])
           go_round
           case rel=>exact ⟨j + 1,y,by omega,by go_num,rfl,by rw [HNX.out,HY.out,hy]⟩
           case measure=>simp [intOf]; omega
       · clear hcell
         have hk4:(k:Int) ≤ 4095:=by omega
         go_wp2
         go_roundw
         case rel=>exact ⟨k + 1,x + z,by omega,by go_num,by go_num,by rw [HST.out,hm,HX.out,HZ.out,show j = c.length from by omega]; rfl,hx'⟩
         case measure=>simp [intOf]; omega
  · go_wp2
    go_ret
    exact ⟨ret_int (by rw [HX.out,show k = pow2 t.size from by omega]; rfl),hw.trans hx⟩
end Go.Proofs
namespace Go.Proofs
open Go.RowKit Go.Tw Go.Flow
theorem gcd_step (a b:Int) (h0:0 ≤ a) (hb:0 < b):Int.gcd b (a.tmod b) = Int.gcd a b:=by
 obtain ⟨n,rfl⟩:=Int.eq_ofNat_of_zero_le h0
 obtain ⟨m,rfl⟩:=Int.eq_ofNat_of_zero_le (Int.le_of_lt hb)
 show Nat.gcd m (n % m) = Nat.gcd n m
 rw [Nat.gcd_comm n m,Nat.gcd_comm m,← Nat.gcd_rec]
theorem Ext.frozen {a b:World} (h:Ext a b) {p:Addr} (hp:p.block < a.heap.size):b.frozen? p = a.frozen? p:=by
 obtain ⟨_,_,_,_,h5⟩:=h
 unfold World.frozen?; rw [h5 _ hp]
theorem wrap_in {n:Int} (h1:-9223372036854775808 ≤ n) (h2:n ≤ 9223372036854775807):IntKind.i64.wrap n = n:=by
 simp only [IntKind.wrap,IntKind.bits,IntKind.signed,Bool.true_and,decide_eq_true_eq,ge_iff_le]
 split <;> omega
theorem frozen_new (w:World) (cs:Array Value) (e:TypeId) (i:Nat):(w.alloc (.cells cs e)).frozen? ⟨w.heap.size,i,none⟩ = false:=by
 have h:(w.alloc (.cells cs e)).heap[w.heap.size]? = some (.cells cs e):=by show (w.heap.push _)[_]? = _; simp
 unfold World.frozen?; rw [h]; simp
set_option maxRecDepth 100000 in
set_option maxHeartbeats 800000 in
theorem Lowest_any (w:World) (a b:Int) (ha:0 ≤ a) (ha2:a ≤ 4611686018427387904) (hb:1 ≤ b) (hb2:b ≤ 4611686018427387904) :
    Calls Tryz.prog 105 #[.int .i64 a,.int .i64 b] w fun e w'=>e = .returned (.agg #[.int .i64 (lowest a b).num,.int .i64 (lowest a b).den]) ∧ Ext w w':=by
 have hw:=Ext.box w (.cells #[.int .i64 0,.int .i64 0] 56)
 have c0:=cell_new w #[.int .i64 0,.int .i64 0] 56 0
 have c1:=cell_new w #[.int .i64 0,.int .i64 0] 56 1
 have f0:=frozen_new w #[.int .i64 0,.int .i64 0] 56 0
 have f1:=frozen_new w #[.int .i64 0,.int .i64 0] 56 1
 have hsW:w.heap.size < (w.alloc (.cells #[.int .i64 0,.int .i64 0] 56)).heap.size:=by show _ < (w.heap.push _).size; rw [Array.size_push]; omega
 have n1:¬ b < 0:=by omega
 go_enter Tryz.func105,Tryz.ntmps105
 go_wp2
 obtain ⟨W,hW⟩:∃ W,w.alloc (.cells #[.int .i64 0,.int .i64 0] 56) = W:=⟨_,rfl⟩
 rw [hW] at c0 c1 f0 f1 hsW hw ⊢
 simp only [List.getElem?_toArray,List.getElem?_cons_zero,List.getElem?_cons_succ] at c0 c1
 clear hW
 go_loopw [5,6] (fun x y wr=>∃ (p q:Int),x = .int .i64 p ∧ y = .int .i64 q ∧ 0 ≤ p ∧ 0 ≤ q ∧ p ≤ 4611686018427387904 ∧ q ≤ 4611686018427387904 ∧ (0 < p ∨ 0 < q) ∧ Int.gcd p q = Int.gcd a b ∧ Ext W wr) (fun _ y _=>(intOf y).toNat)
 case atStart=>exact ⟨a,b,by first | rfl | rw [show max a (-a) = a by omega],by first | rfl | rw [show max b (-b) = b by omega],ha,by omega,ha2,hb2,by omega,rfl,Ext.refl _⟩
 case round =>
  obtain ⟨p,q,rfl,rfl,hp,hq,hp2,hq2,hpq,hg,hx0⟩:=hrel
  by_cases hz:q = 0
  · subst hz
    have hpg:p = (Int.gcd a b:Int):=by rw [← hg,Int.gcd_zero]; omega
    have hdz:¬ p = 0:=by omega
    replace c0:=hx0.cell c0
    replace c1:=hx0.cell c1
    have HPG:=Lib.hid hpg
    clear hg hpg
    have hq1:a / p ≤ a:=Int.ediv_le_self _ ha
    have hq2:b / p ≤ b:=Int.ediv_le_self _ (by omega)
    have hq3:0 ≤ a / p:=Int.ediv_nonneg ha hp
    have hq4:0 ≤ b / p:=Int.ediv_nonneg (by omega) hp
    have hq5:a.tdiv p = a / p:=Int.tdiv_eq_ediv_of_nonneg ha
    have hq6:b.tdiv p = b / p:=Int.tdiv_eq_ediv_of_nonneg (by omega)
    have hq7:IntKind.i64.wrap (a / p) = a / p:=wrap_in (by omega) (by omega)
    have hq8:IntKind.i64.wrap (b / p) = b / p:=wrap_in (by omega) (by omega)
    have hwr:=Nat.lt_of_lt_of_le hsW hx0.size
    replace f0:=(hx0.frozen hsW).trans f0
    replace f1:=(hx0.frozen hsW).trans f1
    go_wp2
    refine Flow.region [.plain,.plain,.plain,.plain,.plain,.plain,.plain,.last] [0,1,2,3,4,5,6,7] [[],[],[0,1],[],[],[3,4],[0,1,2,3,4,5],[0,1,2,3,4,5,6]] [7]
     [.is 0 (fun v=>.int .i64 a),.is 1 (fun v=>.int .i64 p),.is 2 (fun v=>.int .i64 (a / p)),.is 3 (fun v=>.int .i64 b),.is 4 (fun v=>.int .i64 p),.is 5 (fun v=>.int .i64 (b / p)),.is 6 (fun v=>.agg #[.int .i64 (a / p),.int .i64 (b / p)]),.none]
     [fun v w1 w'=>w'.cell? ⟨w.heap.size,0,none⟩ = some (.int .i64 (a / p)) ∧ w'.cell? ⟨w.heap.size,1,none⟩ = some (.int .i64 (b / p)) ∧ Below w.heap.size w1 w'] (by kernel_rfl) rfl (by kernel_rfl) ⟨?g0,?g1,?g2,?g3,?g4,?g5,?g6,?g7,trivial⟩ ?post
    case g0 =>
     intro v w1 hx
     have c0:=hx.cell c0
     have c1:=hx.cell c1
     refine ⟨_,fun w=>?_,rfl⟩
     go_simp
    case g1 =>
     intro v w1 hx
     have c0:=hx.cell c0
     have c1:=hx.cell c1
     refine ⟨_,fun w=>?_,rfl⟩
     go_simp
    case g2 =>
     intro v w1 hx (q0:v 0 = .int .i64 a) (q1:v 1 = .int .i64 p)
     have c0:=hx.cell c0
     have c1:=hx.cell c1
     refine ⟨_,fun w=>?_,rfl⟩
     go_simp
    case g3 =>
     intro v w1 hx
     have c0:=hx.cell c0
     have c1:=hx.cell c1
     refine ⟨_,fun w=>?_,rfl⟩
     go_simp
    case g4 =>
     intro v w1 hx
     have c0:=hx.cell c0
     have c1:=hx.cell c1
     refine ⟨_,fun w=>?_,rfl⟩
     go_simp
    case g5 =>
     intro v w1 hx (q3:v 3 = .int .i64 b) (q4:v 4 = .int .i64 p)
     have c0:=hx.cell c0
     have c1:=hx.cell c1
     refine ⟨_,fun w=>?_,rfl⟩
     go_simp
    case g6 =>
     intro v w1 hx (q0:v 0 = .int .i64 a) (q1:v 1 = .int .i64 p) (q2:v 2 = .int .i64 (a / p)) (q3:v 3 = .int .i64 b) (q4:v 4 = .int .i64 p) (q5:v 5 = .int .i64 (b / p))
     have c0:=hx.cell c0
     have c1:=hx.cell c1
     refine ⟨_,fun w=>?_,rfl⟩
     go_simp
    case g7 =>
     intro v w1 hx (q0:v 0 = .int .i64 a) (q1:v 1 = .int .i64 p) (q2:v 2 = .int .i64 (a / p)) (q3:v 3 = .int .i64 b) (q4:v 4 = .int .i64 p) (q5:v 5 = .int .i64 (b / p)) (q6:v 6 = .agg #[.int .i64 (a / p),.int .i64 (b / p)])
     intro wl hT
     obtain rfl:wl = w1:=hT
     intro bb hbb
     subst hbb
     have c0:=hx.cell c0
     have c1:=hx.cell c1
     intro K hK
     have g0:=(hx.frozen (p:=⟨w.heap.size,0,none⟩) hwr).trans f0
     have g1:=(hx.frozen (p:=⟨w.heap.size,1,none⟩) hwr).trans f1
     go_simp
     refine hK _ _ ⟨?_,?_,((Below.refl w.heap.size wl).setCell (p:=⟨w.heap.size,0,none⟩) (Nat.le_refl _) _).setCell (p:=⟨w.heap.size,1,none⟩) (Nat.le_refl _) _⟩
     · refine Eq.trans (World.cell?_setCell_other _ _ _ _ ?_) (World.cell?_setCell_same _ _ _ c0); intro h; cases h
     · refine World.cell?_setCell_same _ _ _ (Eq.trans (World.cell?_setCell_other _ _ _ _ ?_) c1); intro h; cases h
    case post =>
     intro v w1 hx (q0:v 0 = .int .i64 a) (q1:v 1 = .int .i64 p) (q2:v 2 = .int .i64 (a / p)) (q3:v 3 = .int .i64 b) (q4:v 4 = .int .i64 p) (q5:v 5 = .int .i64 (b / p)) (q6:v 6 = .agg #[.int .i64 (a / p),.int .i64 (b / p)])
     intro w2 hE
     replace hE:(fun v w1 w'=>w'.cell? ⟨w.heap.size,0,none⟩ = some (.int .i64 (a / p)) ∧ w'.cell? ⟨w.heap.size,1,none⟩ = some (.int .i64 (b / p)) ∧ Below w.heap.size w1 w') v w1 w2:=hE
     simp only [Flow.acts,Act.put]
     go_simp
     obtain ⟨e0,e1,e2⟩:=hE
     apply_assumption
     go_wp2
     refine bodyPost_ret (v:=.agg #[.int .i64 (a / p),.int .i64 (b / p)]) (by simp [results,Tryz.results105,go_sem,e0,e1]) rfl ?_
     exact ⟨by rw [HPG.out]; rfl,Below.trans ((hw.trans hx0.drew).trans hx) e2⟩
  · have hq0:0 < q:=by omega
    have hst:=gcd_step p q hp hq0
    have htm:p % q < q:=Int.emod_lt_of_pos p hq0
    have htn:=Int.emod_nonneg p (show q ≠ 0 by omega)
    rw [Int.tmod_eq_emod_of_nonneg hp] at hst
    go_wp2
    go_quiet (fail)
    all_goals go_wp2
    go_roundw
    case rel=>exact ⟨q,p % q,rfl,by go_num,by omega,htn,hq2,by omega,Or.inl hq0,by rw [hst,hg],hx0.drewN _⟩
    case measure=>exact (Int.toNat_lt_toNat hq0).2 htm
end Go.Proofs
namespace Go.Proofs
open Go.RowKit Go.Tw Go.Flow
theorem _root_.Go.Tw.Own1.spot {w:World} {base:Nat} {e:TypeId} {v:Value} {l:List Int} (h:Own1 w base e (Value.int .i64) v l) (h0:0 < l.length) :
    ∃ g cap,v = .slice (some ⟨g,0,none⟩) l.length cap ∧ base ≤ g ∧ l.length ≤ cap:=by
 rcases h.2 with ⟨rfl,hn⟩ | ⟨g,cap,cur,hv,hb,hg,hc,_⟩
 · omega
 · exact ⟨g,cap,hv,hb,hc⟩
theorem _root_.Go.Tw.Own1.at {w:World} {base:Nat} {e:TypeId} {g cap n:Nat} {l:List Int} (h:Own1 w base e (Value.int .i64) (.slice (some ⟨g,0,none⟩) n cap) l) {j:Nat} (hj:j < l.length) :
    w.cell? ⟨g,j,none⟩ = some (.int .i64 (ix l j)) ∧ w.frozen? ⟨g,j,none⟩ = false:=by
 rcases h.2 with ⟨hv,hn⟩ | ⟨g',cap',cur,hv,hb,hg,hc,hm,hs,ht⟩
 · cases hv
 · injection hv with h1 h2 h3
   injection h1 with h1
   injection h1 with h1
   subst h1
   have h1:=congrArg (fun l=>l[j]?) ht
   simp only [Nat.mul_one,List.getElem?_take,hj,if_true,List.getElem?_map,List.getElem?_eq_getElem hj,Option.map_some] at h1
   refine ⟨?_,?_⟩
   · rw [ix_eq hj]; simp only [World.cell?,hg]; simpa using h1
   · unfold World.frozen?; rw [hg]; simp
theorem _root_.Go.Tw.Own1.set {w:World} {base:Nat} {e:TypeId} {g cap n:Nat} {l:List Int} (h:Own1 w base e (Value.int .i64) (.slice (some ⟨g,0,none⟩) n cap) l) {j:Nat} (x:Int) :
    Own1 (w.setCell ⟨g,j,none⟩ (.int .i64 x)) base e (Value.int .i64) (.slice (some ⟨g,0,none⟩) n cap) (l.set j x):=by
 refine ⟨by simp,?_⟩
 rcases h.2 with ⟨hv,hn⟩ | ⟨g',cap',cur,hv,hb,hg,hc,hm,hs,ht⟩
 · cases hv
 · injection hv with h1 h2 h3
   injection h1 with h1
   injection h1 with h1
   subst h1 h3
   refine .inr ⟨g,cap,cur.setIfInBounds j (.int .i64 x),by rw [List.length_set,h2],hb,?_,by simpa using hc,hm,by simpa using hs,?_⟩
   · simp only [World.setCell,Array.getElem?_modify,if_true,hg,Option.map_some]; rfl
   · rw [Array.toList_setIfInBounds,List.take_set,List.length_set,ht,List.map_set]
def withTo (c l:List Int) (n:Int) (k:Nat):List Int:=(List.range c.length).map fun (i:Nat)=>if has (l.take k) i then n else ix c i
theorem withTo_len (c l:List Int) (n:Int) (k:Nat):(withTo c l n k).length = c.length:=by simp [withTo]
theorem withTo_zero (c l:List Int) (n:Int):withTo c l n 0 = c:=by
 apply List.ext_getElem
 · simp [withTo]
 · intro i h1 h2
   simp [withTo,has,ix_eq h2]
theorem withTo_succ {c l:List Int} {n:Int} {k:Nat} (hk:k < l.length) (h0:0 ≤ ix l k):withTo c l n (k + 1) = (withTo c l n k).set (ix l k).toNat n:=by
 apply List.ext_getElem
 · simp [withTo]
 · intro i h1 h2
   have e:l.take (k + 1) = l.take k ++ [ix l k]:=by rw [ix_eq hk,List.take_append_getElem]
   simp only [withTo,List.getElem_set,List.getElem_map,List.getElem_range,e]
   have e2:has (l.take k ++ [ix l k]) (i:Int) = (has (l.take k) i || decide ((ix l k).toNat = i)):=by
    rw [Bool.eq_iff_iff,has_iff,Bool.or_eq_true,has_iff,decide_eq_true_eq,List.mem_append,List.mem_singleton]
    constructor
    · rintro (h | h); · exact .inl h
      · right; omega
    · rintro (h | h); · exact .inl h
      · right; omega
   rw [e2]
   by_cases h:(ix l k).toNat = i
   · simp [h]
   · simp [h]
theorem withTo_all (c l:List Int) (n:Int):withTo c l n l.length = withEv c l n:=by unfold withTo withEv; rw [List.take_length]
theorem news_ints {w:World} {b off:Nat} {l:List Int} (h:∀ j,j < l.length → w.cell? ⟨b,off + j,none⟩ = some (.int .i64 (ix l j))) :
    ∀ j u,(l.map (Value.int .i64))[j]? = some u → w.cell? ((⟨b,off,none⟩:Addr).add j) = some u:=by
 intro j u hu
 rw [List.getElem?_map] at hu
 rcases Nat.lt_or_ge j l.length with hj | hj
 · rw [List.getElem?_eq_getElem hj] at hu
   simp only [Option.map_some,Option.some.injEq] at hu
   rw [← hu,addr_add,h j hj,ix_eq hj]
 · rw [List.getElem?_eq_none hj] at hu; cases hu
set_option maxRecDepth 100000 in
set_option maxHeartbeats 800000 in
theorem with_any (w:World) (u v:Value) (c l:List Int) (n:Int) (h0:0 < c.length) (hl:∀ k,k < l.length → 0 ≤ ix l k ∧ ix l k < c.length) (hu:IsInts w u c) (hv:IsInts w v l) :
    Calls Tryz.prog 98 #[u,v,.int .i64 n] w fun e w'=>∃ x,e = .returned x ∧ IsInts w' x (withEv c l n) ∧ Ext w w':=by
 obtain ⟨i0,hi,hz0,hz1,hz2⟩:=info_parts Tryz.info3
 obtain ⟨A,cap,rfl,hcl,hcap,hcc⟩:=hu.opened
 obtain ⟨b0,off0,rfl,hcell0⟩:=hcc 0 h0
 have hb:=World.block_lt_of_cell? w _ hcell0
 have hcs:∀ j,j < c.length → w.cell? ⟨b0,off0 + j,none⟩ = some (.int .i64 (ix c j)):=fun j hj=>by
  obtain ⟨b',off',hA,h⟩:=hcc j hj
  cases hA; exact h
 clear hu hcc hcell0
 have HC:=Lib.hid hcs; clear hcs
 obtain ⟨B,capl,rfl,hll,hcapl,hlc⟩:=hv.opened
 clear hv
 have HLC:=Lib.hid hlc; clear hlc
 have HL:=Lib.hid hl; clear hl
 have HH0:=Lib.hid h0
 clear h0
 go_enter Tryz.func98,Tryz.ntmps98
 go_wp2_with (at_builtin; refine wpList_append_own _ rfl _ _ 39 rfl w.heap.size 3 i0 (.int .i64 0) 1 8 Tryz.underlying39 hi hz0 hz1 hz2 rfl (by decide) _ _ _ rfl (Own1.made w w.heap.size 3 (Value.int .i64) (Nat.le_refl _)) ⟨b0,off0,none⟩ c.length cap (c.map (Value.int .i64)) rfl (by simp) ?_ ?_ ?_ ?_ ?_ ?_; exact news_ints (fun j hj=>(Ext.box w _).cell (HC.out j hj)); (focus (intro u hu; obtain ⟨y,_,rfl⟩:=List.mem_map.1 hu; rfl)); (focus (unfold maxLen; simp; omega)); (focus (simp; omega)); (focus (simp)); intro v' w1 hown' hgrow _)
 have hx1:Ext w w1:=Below.grown (Ext.box w _) hgrow (Ext.box w _).size (fun k hk=>by
  have h:some w.heap.size = some k:=hk
  injection h with h; omega)
 replace hown':Own1 w1 w.heap.size 3 (Value.int .i64) v' c:=by unfold Own1; simpa using hown'
 clear hgrow
 obtain ⟨g,cp,rfl,hg,hcp⟩:=hown'.spot HH0.out
 go_wp2
 go_loopw [8] (fun i wr=>∃ (k:Nat),k ≤ l.length ∧ i = .int .i64 k ∧ Own1 wr w.heap.size 3 (.int .i64) (.slice (some ⟨g,0,none⟩) c.length cp) (withTo c l n k) ∧ Ext w wr) (fun i _=>l.length - (intOf i).toNat)
 case atStart=>exact ⟨0,Nat.zero_le _,rfl,by rw [withTo_zero]; exact hown',hx1⟩
 case round =>
  obtain ⟨k,hk,rfl,hown,hx⟩:=hrel
  have hlen:=withTo_len c l n k
  by_cases hlt:k < l.length
  · obtain ⟨b,off,rfl,hce⟩:=HLC.out k hlt
    replace hce:=hx.cell hce
    obtain ⟨y0,y1⟩:=HL.out k hlt
    have hst:=withTo_succ (c:=c) (n:=n) hlt y0
    obtain ⟨j,hj⟩:∃ j:Nat,ix l k = j:=⟨(ix l k).toNat,by omega⟩
    rw [hj] at hce y0 y1 hst
    rw [Int.toNat_natCast] at hst
    have hjl:j < c.length:=by omega
    obtain ⟨m0,m1⟩:=hown.at (j:=j) (by omega)
    have HOWN:=Lib.hid hown
    have HST:=Lib.hid hst
    have HJ:=Lib.hid hj
    have HLEN:=Lib.hid hlen
    clear hown hst hj hlen
    go_wp2
    go_roundw
    case rel=>exact ⟨k + 1,by omega,by go_num,by rw [HST.out]; exact HOWN.out.set n,hx.setCell (p:=⟨g,j,none⟩) hg _⟩
    case measure=>simp [intOf]; omega
  · have HLEN:=Lib.hid hlen; clear hlen
    go_wp2
    go_ret
    exact ⟨_,rfl,by rw [← withTo_all,show l.length = k from by omega]; have:=hown.ints (by have:=HLEN.out; omega); exact this,hx⟩
end Go.Proofs
namespace Go.Proofs
open Go.RowKit Go.Tw Go.Flow
theorem stored2 {W:World} {g:Nat} {x y u0 u1:Value} (h0:W.cell? ⟨g,0,none⟩ = some u0) (h1:W.cell? ⟨g,1,none⟩ = some u1) :
    ((W.setCell ⟨g,0,none⟩ x).setCell ⟨g,1,none⟩ y).cell? ⟨g,0,none⟩ = some x ∧ ((W.setCell ⟨g,0,none⟩ x).setCell ⟨g,1,none⟩ y).cell? ⟨g,1,none⟩ = some y:=by
 refine ⟨Eq.trans (World.cell?_setCell_other _ _ _ _ ?_) (World.cell?_setCell_same _ _ _ h0),World.cell?_setCell_same _ _ _ (Eq.trans (World.cell?_setCell_other _ _ _ _ ?_) h1)⟩
 · intro h; cases h
 · intro h; cases h
theorem _root_.Go.Tw.Ext.stored2 {w W:World} (h:Ext w W) {g:Nat} (hg:w.heap.size ≤ g) (x y:Value):Ext w ((W.setCell ⟨g,0,none⟩ x).setCell ⟨g,1,none⟩ y) :=
 (h.setCell (p:=⟨g,0,none⟩) hg x).setCell (p:=⟨g,1,none⟩) hg y
structure Res (w:World) (g:Nat):Prop where
 c0:w.cell? ⟨g,0,none⟩ = some (.int .i64 0)
 c1:w.cell? ⟨g,1,none⟩ = some (.int .i64 0)
 f0:w.frozen? ⟨g,0,none⟩ = false
 f1:w.frozen? ⟨g,1,none⟩ = false
theorem Res.ext {w w':World} {g:Nat} (h:Res w g) (hx:Ext w w'):Res w' g :=
 have hb:=World.block_lt_of_cell? w _ h.c0
 ⟨hx.cell h.c0,hx.cell h.c1,(hx.frozen (p:=⟨g,0,none⟩) hb).trans h.f0,(hx.frozen (p:=⟨g,1,none⟩) hb).trans h.f1⟩
theorem Res.new (w:World) (T:TypeId):Res (w.alloc (.cells #[.int .i64 0,.int .i64 0] T)) w.heap.size :=
 ⟨cell_new w #[.int .i64 0,.int .i64 0] T 0,cell_new w #[.int .i64 0,.int .i64 0] T 1,frozen_new _ _ _ _,frozen_new _ _ _ _⟩
theorem Res.new1 (w:World) (o:Obj) (T:TypeId):Res ((w.alloc o).alloc (.cells #[.int .i64 0,.int .i64 0] T)) (w.heap.size + 1):=by
 have h:=Res.new (w.alloc o) T
 have e:(w.alloc o).heap.size = w.heap.size + 1:=by show (w.heap.push _).size = _; rw [Array.size_push]
 rwa [e] at h
def ratV (r:Ratio):Value:=.agg #[.int .i64 r.num,.int .i64 r.den]
def probOf (t:Tree) (c:List Int):Ratio:=lowest (t.weight c) (powN 16 c.length)
theorem pow16_bd {n:Nat} (h:n ≤ 12):1 ≤ 16 ^ n ∧ 16 ^ n ≤ 281474976710656:=by
 refine ⟨Nat.le_trans Nat.one_le_two_pow (Nat.pow_le_pow_left (by omega:2 ≤ 16) n),Nat.le_trans (Nat.pow_le_pow_right (by omega) h) (by decide)⟩
theorem powN16_bd {n:Nat} (h:n ≤ 12):1 ≤ powN 16 n ∧ powN 16 n ≤ 281474976710656:=pow16_bd h
theorem power16_any (w:World) (n:Nat) (hn:n ≤ 12) :
    Calls Tryz.prog 85 #[.int .i64 16,.int .i64 n] w fun e w'=>e = .returned (.int .i64 (powN 16 n)) ∧ w = w' :=
 power_any w 16 n (by omega) (Nat.le_trans (pow16_bd hn).2 (by decide)) (by omega) (by omega)
theorem weight_bd {c:List Int} (h:Small c) {t:Tree} (hs:t.size ≤ 12):0 ≤ t.weight c ∧ t.weight c ≤ 1152921504606846976:=by
 have h1:=weightTo_bd h t (2 ^ t.size)
 have h2:2 ^ t.size ≤ 4096:=Nat.le_trans (Nat.pow_le_pow_right (n:=2) (by omega) hs) (by decide)
 unfold Tree.weight
 have h3:((2 ^ t.size:Nat):Int) ≤ 4096:=Int.ofNat_le.2 h2
 omega
set_option maxRecDepth 100000 in
set_option maxHeartbeats 800000 in
theorem Probability_any (w:World) (v u:Value) (t:Tree) (c:List Int) (hfit:Fit t) (hn:1 ≤ t.nodes) (hs:t.size ≤ 12) (hc:Small c) (ht:IsTree w v t) (hl:IsInts w u c) :
    Calls Tryz.prog 48 #[v,u] w fun e w'=>e = .returned (ratV (probOf t c)) ∧ Ext w w':=by
 obtain ⟨a,b,d,rfl,h3⟩:=ht
 have hw:=Ext.box w (.cells #[a,b,d] 26)
 have c0:=cell_new w #[a,b,d] 26 0
 have c1:=cell_new w #[a,b,d] 26 1
 have c2:=cell_new w #[a,b,d] 26 2
 have HT:=Lib.hid (h3.ext hw)
 have HL:=Lib.hid (hl.ext hw)
 have HF:=Lib.hid hfit
 have HCS:=Lib.hid hc
 obtain ⟨A,cap,rfl,hl1,hcap,hcell⟩:=hl.opened
 have hlc:=hc.len
 have hwb:=weight_bd hc hs
 have hpb:=powN16_bd hlc
 clear h3 hl hfit hc hcell
 go_enter Tryz.func48,Tryz.ntmps48
 go_wp2_with fail
 have R:=Res.new1 w (.cells #[a,b,d] 26) 56
 have hx0:=Ext.box (w.alloc (.cells #[a,b,d] 26)) (.cells #[.int .i64 0,.int .i64 0] 56)
 refine (weight_any _ _ _ t c HF.out hn hs HCS.out ⟨_,_,_,rfl,HT.out.ext hx0⟩ (HL.out.ext hx0)).mono ?_
 rintro e w1 ⟨rfl,hx1⟩
 replace R:=R.ext hx1
 have hx:=(hw.trans hx0).trans hx1
 clear hx0 hx1 c0 c1 c2 hw HT
 go_wp2_with fail
 refine (power16_any _ _ hlc).mono ?_
 rintro e w2 ⟨rfl,rfl⟩
 go_wp2_with fail
 refine (Lowest_any _ _ _ hwb.1 (by omega) (by omega) (by omega)).mono ?_
 rintro e w3 ⟨rfl,hx3⟩
 replace R:=R.ext hx3
 replace hx:=hx.trans hx3
 clear hx3
 obtain ⟨r0,r1,f0,f1⟩:=R
 go_wp2
 obtain ⟨e0,e1⟩:=stored2 (x:=.int .i64 (lowest (t.weight c) (powN 16 c.length)).num) (y:=.int .i64 (lowest (t.weight c) (powN 16 c.length)).den) r0 r1
 refine bodyPost_ret (v:=ratV (probOf t c)) (by simp [results,Tryz.results48,go_sem,e0,e1,ratV,probOf]) rfl ?_
 exact ⟨rfl,Ext.stored2 hx (by omega) _ _⟩
end Go.Proofs
