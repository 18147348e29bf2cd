/- Contract of bits.OnesCount. What a tree without an error is like. The nodes of a tree as sets of bits, and what they come to: no program is in sight here. The contract of the reference's States and Fails. Contracts: which nodes fail; cut sets and path sets as bits. -/
import Derived.Test.YtmaejccjimkbiaaGreatDoorFx06
import Derived.Test.YtmaejccjimkbiaaGreatDoorFx02
import Derived.Test.YtmaejccjimkbiaaGreatDoorFx05
set_option linter.unusedVariables false
set_option linter.unusedSimpArgs false
set_option linter.constructorNameAsVariable false
namespace Go.Proofs
open Go.RowKit Go.Tw Go.Flow
theorem Z5o (n:Int) (h0:0 ≤ n) (h1:n < 2 ^ 64):IntKind.u64.wrap n = n:=by
 simp [IntKind.wrap,IntKind.bits,IntKind.signed]; omega
theorem X5i {n:Nat} (h:n < 18446744073709551616):IntKind.u64.wrap (n:Int) = (n:Int):=Z5o _ (by omega) (by omega)
theorem Z5i {a b:Nat} (ha:a < 2 ^ 64) (hb:b < 2 ^ 64):bits .and .u64 (a:Int) (b:Int) = ((a &&& b:Nat):Int):=(bits_nat .u64 64 (by decide) Z5o a b ha hb).1
theorem u1 {n:Nat} (h:n < 2 ^ 64):IntKind.u64.wrap (bits .and .u64 ((n:Int) / 2) 6148914691236517205 + bits .and .u64 (n:Int) 6148914691236517205) = (X7r n:Int):=by
 have e1:bits .and .u64 ((n:Int) / 2) 6148914691236517205 = ((n / 2 &&& 6148914691236517205:Nat):Int):=Z5i (a:=n / 2) (b:=6148914691236517205) (by omega) (by decide)
 have e2:bits .and .u64 (n:Int) 6148914691236517205 = ((n &&& 6148914691236517205:Nat):Int):=Z5i (a:=n) (b:=6148914691236517205) h (by decide)
 have b1:=X3a (n / 2) 6148914691236517205;have b2:=X3a n 6148914691236517205;rw [e1,e2,← Int.natCast_add];exact X5i (by omega)
theorem u2 {n:Nat} (h:n < 2 ^ 64):IntKind.u64.wrap (bits .and .u64 ((n:Int) / 4) 3689348814741910323 + bits .and .u64 (n:Int) 3689348814741910323) = (Y0i n:Int):=by
 have e1:bits .and .u64 ((n:Int) / 4) 3689348814741910323 = ((n / 4 &&& 3689348814741910323:Nat):Int):=Z5i (a:=n / 4) (b:=3689348814741910323) (by omega) (by decide)
 have e2:bits .and .u64 (n:Int) 3689348814741910323 = ((n &&& 3689348814741910323:Nat):Int):=Z5i (a:=n) (b:=3689348814741910323) h (by decide)
 have b1:=X3a (n / 4) 3689348814741910323;have b2:=X3a n 3689348814741910323;rw [e1,e2,← Int.natCast_add];exact X5i (by omega)
theorem Z0k (n:Nat):X7r n < 2 ^ 64:=by
 have b1:=X3a (n / 2) 6148914691236517205;have b2:=X3a n 6148914691236517205;unfold X7r; omega
theorem Z2c (n:Nat):Y0i n ≤ 7378697629483820646:=by
 have b1:=X3a (n / 4) 3689348814741910323;have b2:=X3a n 3689348814741910323;unfold Y0i; omega
theorem u3 {n:Nat} (h:n ≤ 7378697629483820646):bits .and .u64 (IntKind.u64.wrap ((n:Int) / 16 + (n:Int))) 1085102592571150095 = (Y7h n:Int):=by
 have e1:IntKind.u64.wrap ((n:Int) / 16 + (n:Int)) = ((n / 16 + n:Nat):Int):=X5i (n:=n / 16 + n) (by omega)
 rw [e1];exact Z5i (a:=n / 16 + n) (b:=1085102592571150095) (by omega) (by decide)
theorem u4 {n:Nat} (h:n < 2 ^ 63):IntKind.u64.wrap ((n:Int) + (n:Int) / 256) = ((n + n / 256:Nat):Int):=X5i (n:=n + n / 256) (by omega)
theorem u5 {n:Nat} (h:n < 2 ^ 63):IntKind.u64.wrap ((n:Int) + (n:Int) / 65536) = ((n + n / 65536:Nat):Int):=X5i (n:=n + n / 65536) (by omega)
theorem u6 {n:Nat} (h:n < 2 ^ 63):IntKind.u64.wrap ((n:Int) + (n:Int) / 4294967296) = ((n + n / 4294967296:Nat):Int):=X5i (n:=n + n / 4294967296) (by omega)
theorem u7 {n:Nat} (h:n < 2 ^ 62):bits .and .i64 (wrap64 (n:Int)) 127 = ((n % 128:Nat):Int):=by
 have e:wrap64 (n:Int) = (n:Int):=by unfold wrap64; omega
 have e2:bits .and .i64 (n:Int) 127 = ((n &&& 127:Nat):Int):=Z2d (a:=n) (b:=127) h (by decide)
 rw [e,e2,show (127:Nat) = 2 ^ 7 - 1 from rfl,Nat.and_two_pow_sub_one_eq_mod]
set_option maxRecDepth 100000 in
theorem Y5z (w:World) (n:Nat) (hn:n < 2 ^ 64) :
    Calls Tryz.prog 172 #[.int .u64 n] w fun e w'=>e = .returned (.int .i64 (X0e n 64:Nat)) ∧ w = w':=by
 have HN:=Lib.hid hn;clear hn;go_enter Tryz.func172,Tryz.ntmps172;go_wp2;go_ret;refine ⟨Q1f ?_,rfl⟩;obtain ⟨x,hx⟩:∃ x,Y7h (Y0i (X7r n)) = x:=⟨_,rfl⟩;obtain ⟨a,ha⟩:∃ a,x + x / 256 = a:=⟨_,rfl⟩;obtain ⟨b,hb⟩:∃ b,a + a / 65536 = b:=⟨_,rfl⟩;obtain ⟨c,hc⟩:∃ c,b + b / 4294967296 = c:=⟨_,rfl⟩;obtain ⟨bx,ba,bb,bc,e⟩:=Y5h HN.out hx ha hb hc;rw [u1 HN.out,u2 (Z0k n),u3 (Z2c _),hx,u4 (by omega),ha,u5 (by omega),hb,u6 (by omega),hc,← e]
 exact u7 (by omega)
theorem Z0v (w:World) (n:Nat) (hn:n < 2 ^ 64) :
    Calls Tryz.prog 157 #[.int .u64 n] w fun e w'=>e = .returned (.int .i64 (X0e n 64:Nat)) ∧ w = w':=by
 have HN:=Lib.hid hn;clear hn;go_enter Tryz.func157,Tryz.ntmps157;go_wp2_with (go_at_call 172; refine (Y5z _ _ HN.out).mono ?_; rintro e w' ⟨rfl,rfl⟩);go_ret;exact ⟨rfl,rfl⟩
end Go.Proofs
namespace Go.Tw
theorem Q1k {l:List Int}:Q0h l = 0 ↔ ∀ x ∈ l,x = 0:=by
 induction l with
 | nil=>simp [Q0h]
 | cons y l ih =>
   unfold Q0h
   by_cases h:y = 0
   · simp [h,ih]
   · simp [h]
structure Fit (t:Tree):Prop where
 nb:t.basics.length ≤ 1000
 nc:t.causes.length ≤ 1000
 ng:t.gates.length ≤ 1000
 inp:∀ k,k < t.gates.length → ∀ x ∈ Q0l t.gates k,0 ≤ x ∧ x < (t.basics.length:Int) + k
theorem Q2n {l:List Int} {n:Int} (h:Q1h l n = 0):(∀ x ∈ l,0 ≤ x ∧ x < n) ∧ X5x l = true:=by
 unfold Q1h at h
 split at h
 · cases h
 · split at h
   · rename_i h1 h2
     refine ⟨fun x hx=>?_,h2⟩;unfold Y7s at h1;rw [Bool.not_eq_true,List.any_eq_false] at h1;have:=h1 x hx;simp only [decide_eq_true_eq] at this;omega
   · cases h
structure Valid (t:Tree):Prop where
 nb:1 ≤ t.basics.length
 ng:1 ≤ t.gates.length
 size:t.size ≤ 12
 ng':t.gates.length ≤ 32
 event:∀ i,i < t.size → t.Q0u i = 0
 gate:∀ i,i < t.gates.length → t.Q1u i = 0
theorem Valid.of {t:Tree} (h:t.err = 0):Valid t:=by
 unfold Tree.err at h
 split at h
 · cases h
 · split at h
   · cases h
   · rename_i h1 h2
     rw [Q1k] at h;refine ⟨by omega,by omega,by omega,by omega,fun i hi=>h _ ?_,fun i hi=>h _ ?_⟩
     · exact List.mem_append_left _ (List.mem_map.2 ⟨i,List.mem_range.2 hi,rfl⟩)
     · exact List.mem_append_right _ (List.mem_map.2 ⟨i,List.mem_range.2 hi,rfl⟩)
theorem Valid.inputs {t:Tree} (h:Valid t) {k:Nat} (hk:k < t.gates.length):Q2s (Q0l t.gates k) ((t.basics.length:Int) + k) = 0:=by
 have:=h.gate k hk;unfold Tree.Q1u Q8n at this;rw [Q1k] at this;exact this _ (by simp)
theorem Q5z {l:List Int} {n:Int} (h:Q2s l n = 0):l ≠ [] ∧ Q1h l n = 0:=by
 unfold Q2s at h
 split at h
 · cases h
 · exact ⟨‹_›,h⟩
theorem Valid.fit {t:Tree} (h:Valid t):Fit t:=by
 have:=h.size;unfold Tree.size at this;have:=h.ng';exact ⟨by omega,by omega,by omega,fun k hk=>(Q2n (Q5z (h.inputs hk)).2).1⟩
theorem Valid.chance {t:Tree} (h:Valid t) {i:Nat} (hi:i < t.size):0 ≤ t.Q0y i ∧ t.Q0y i ≤ 16:=by
 have:=h.event i hi;unfold Tree.Q0u at this;rw [Q1k] at this;have:=this (Q0m (t.Q0y i) 0 16) (by simp)
 unfold Q0m at this
 split at this
 · cases this
 · omega
end Go.Tw
namespace Go.Tw
open Go.RowKit
theorem Z1t {x:Int} {l:List Int} (h:X5x (x :: l) = true):∀ y ∈ l,x < y:=by
 induction l generalizing x with
 | nil=>intro y hy; cases hy
 | cons z l ih =>
   simp only [X5x,Bool.and_eq_true,decide_eq_true_eq] at h;intro y hy
   rcases List.mem_cons.1 hy with rfl | hy
   · exact h.1
   · exact Int.lt_trans h.1 (ih h.2 y hy)
theorem Z2j {x:Int} {l:List Int} (h:X5x (x :: l) = true):X5x l = true:=by
 cases l with
 | nil=>rfl
 | cons z l=>simp only [X5x,Bool.and_eq_true] at h; exact h.2
theorem count_one (a:Nat) (p:Nat → Bool):∀ k,(List.range k).countP (fun i=>p i && decide (i = a)) = if a < k then (if p a then 1 else 0) else 0
 | 0=>rfl
 | k + 1=>by
   rw [List.range_succ,List.countP_append,count_one a p k,List.countP_singleton]
   by_cases h:a < k
   · have h2:¬ k = a:=by omega
     have h3:a < k + 1:=by omega
     simp [h,h2,h3]
   · by_cases h2:k = a
     · subst h2; simp
     · have h3:¬ a < k + 1:=by omega
       simp [h,h2,h3]
theorem Y3f (l:List Nat) (p q:Nat → Bool) (h:∀ i ∈ l,¬ (p i = true ∧ q i = true)):l.countP (fun i=>p i || q i) = l.countP p + l.countP q:=by
 induction l with
 | nil=>rfl
 | cons x l ih =>
   have h0:=h x (List.mem_cons_self ..);rw [List.countP_cons,List.countP_cons,List.countP_cons,ih (fun i hi=>h i (List.mem_cons_of_mem _ hi))];cases hp:p x <;> cases hq:q x <;> simp_all <;> omega
theorem X1u (k:Nat) (p:Nat → Bool):∀ l:List Int,X5x l = true → (∀ x ∈ l,0 ≤ x ∧ x < (k:Int)) → (List.range k).countP (fun i=>p i && has l i) = l.countP fun x=>p x.toNat
 | [],_,_=>by simp [has]
 | x :: l,ha,hb=>by
   have h0:=hb x (List.mem_cons_self ..);have e:(List.range k).countP (fun i=>p i && has (x :: l) i) = (List.range k).countP (fun i=>(p i && decide (i = x.toNat)) || (p i && has l i)):=by
    refine List.countP_congr fun i _=>?_;rw [X3z];have:(x == (i:Int)) = decide (i = x.toNat):=by
     by_cases h:x = (i:Int)
     · subst h; simp
     · rw [beq_false_of_ne h,decide_eq_false (by omega)]
    rw [this];cases p i <;> simp
   rw [e,Y3f,count_one,if_pos (by omega),X1u k p l (Z2j ha) (fun y hy=>hb y (List.mem_cons_of_mem _ hy)),List.countP_cons]
   · omega
   · rintro i _ ⟨h1,h2⟩
     simp only [Bool.and_eq_true,decide_eq_true_eq] at h1 h2;have:=Z1t ha (i:Int) (X8n.1 h2.2);omega
theorem Y1w {out:List Bool} {l:List Int} (ha:X5x l = true) (hb:∀ x ∈ l,0 ≤ x ∧ x < 64):X0e (Q4l out &&& Q1n l) 64 = failing out l:=by
 unfold X0e failing;rw [← X1u 64 (fun i=>bx out i) l ha hb];refine List.countP_congr fun i _=>?_;rw [Nat.testBit_and,Q4n,X2c (fun x hx=>(hb x hx).1)]
namespace Tree
def maskAt (t:Tree) (k:Nat):Nat:=if k < t.basics.length then 2 ^ k else Q1n (Q0c t.causes (k - t.basics.length))
def masks (t:Tree):List Int:=(List.range t.size).map fun k=>(t.maskAt k:Int)
def gt (t:Tree) (k:Nat):Nat × Int:=(Q1n (Q0l t.gates k),Q5a (Q2c t.gates k) (Q2x t.gates k) (Q0l t.gates k).length)
def gts (t:Tree):List (Nat × Int):=(List.range t.gates.length).map t.gt
def Y1e (t:Tree) (s:Nat):Nat → Nat
 | 0=>0
 | k + 1=>if s.testBit k then t.Y1e s k ||| t.maskAt k else t.Y1e s k
end Tree
theorem Q2o (t:Tree):t.masks.length = t.size:=by simp [Tree.masks]
theorem X4x (t:Tree):t.gts.length = t.gates.length:=by simp [Tree.gts]
theorem Z0x {t:Tree} {k:Nat} (h:k < t.size):ix t.masks k = (t.maskAt k:Int):=by
 rw [Q8m (by rw [Q2o]; exact h)]; simp [Tree.masks]
theorem Valid.members {t:Tree} (h:Valid t) {k:Nat} (hk:k < t.causes.length):∀ x ∈ Q0c t.causes k,0 ≤ x ∧ x < (t.basics.length:Int):=by
 have h1:=h.event (t.basics.length + k) (by unfold Tree.size; omega)
 unfold Tree.Q0u at h1;rw [Q1k] at h1;have h2:=h1 (if t.basics.length + k < t.basics.length then 0 else Q2s (Q0c t.causes (t.basics.length + k - t.basics.length)) t.basics.length) (by simp)
 rw [if_neg (by omega),Nat.add_sub_cancel_left] at h2
 exact (Q2n (Q5z h2).2).1
theorem Valid.X9q {t:Tree} (h:Valid t) {k:Nat} (hk:k < t.size):t.maskAt k < 2 ^ t.basics.length:=by
 unfold Tree.maskAt
 split
 · rename_i h1; exact Nat.pow_lt_pow_right (by omega) h1
 · exact Q9l h.nb (fun x hx=>(h.members (by unfold Tree.size at hk; omega) x hx).2)
theorem Valid.Y3c {t:Tree} (h:Valid t) (s:Nat):∀ k,k ≤ t.size → t.Y1e s k < 2 ^ t.basics.length
 | 0,_=>Nat.two_pow_pos _
 | k + 1,hk=>by
   have ih:=h.Y3c s k (by omega)
   rw [Tree.Y1e]
   split
   · exact Nat.or_lt_two_pow ih (h.X9q (by omega))
   · exact ih
theorem Y3p (t:Tree) (s i:Nat):∀ k,(t.Y1e s k).testBit i = (List.range k).any fun j=>s.testBit j && (t.maskAt j).testBit i
 | 0=>by simp [Tree.Y1e]
 | k + 1=>by
   rw [Tree.Y1e,List.range_succ,List.any_append,← Y3p t s i k];cases h:s.testBit k
   · simp [h]
   · simp [h,Nat.testBit_or]
theorem X4p (a b:Nat) (p:Nat → Bool):(List.range (a + b)).any p = ((List.range a).any p || (List.range b).any fun j=>p (a + j)):=by
 rw [List.range_add,List.any_append,List.any_map]; rfl
theorem Z4e (n i:Nat) (p:Nat → Bool):((List.range n).any fun j=>p j && decide (i = j)) = (decide (i < n) && p i):=by
 induction n with
 | zero=>rfl
 | succ n ih =>
   rw [List.range_succ,List.any_append,ih]
   by_cases h:i = n
   · subst h; simp
   · by_cases h2:i < n
     · have h3:i < n + 1:=by omega
       simp [h,h2,h3]
     · have h3:¬ i < n + 1:=by omega
       simp [h,h2,h3]
theorem Valid.Z0u {t:Tree} (h:Valid t) (s:Nat):t.Y1e s t.size = Q4l (t.X2i (evN s)):=by
 apply Nat.eq_of_testBit_eq
 intro i;rw [Q4n]
 rcases Nat.lt_or_ge i t.basics.length with hi | hi
 · have e:bx (t.X2i (evN s)) i = t.Y8w (evN s) i:=by unfold bx Tree.X2i; simp [hi]
   rw [e,Y3p,Tree.size,X4p];unfold Tree.Y8w evN
   congr 1
   · have e2:((List.range t.basics.length).any fun j=>s.testBit j && (t.maskAt j).testBit i) = (List.range t.basics.length).any fun j=>s.testBit j && decide (i = j):=by
      rw [Bool.eq_iff_iff,List.any_eq_true,List.any_eq_true]
      constructor
      · rintro ⟨j,hj,h2⟩
        refine ⟨j,hj,?_⟩;unfold Tree.maskAt at h2
        rwa [if_pos (List.mem_range.1 hj),X4k] at h2
      · rintro ⟨j,hj,h2⟩
        refine ⟨j,hj,?_⟩;unfold Tree.maskAt
        rwa [if_pos (List.mem_range.1 hj),X4k]
     rw [e2,Z4e,decide_eq_true hi,Bool.true_and]
   · rw [Bool.eq_iff_iff,List.any_eq_true,List.any_eq_true]
     have e3:∀ j,j < t.causes.length → (t.maskAt (t.basics.length + j)).testBit i = has (Q0c t.causes j) i:=by
      intro j hj;unfold Tree.maskAt;rw [if_neg (by omega),Nat.add_sub_cancel_left,X2c (fun x hx=>(h.members hj x hx).1)]
     constructor
     · rintro ⟨j,hj,h2⟩
       exact ⟨j,hj,by rwa [e3 j (List.mem_range.1 hj)] at h2⟩
     · rintro ⟨j,hj,h2⟩
       exact ⟨j,hj,by rwa [e3 j (List.mem_range.1 hj)]⟩
 · rw [X9f (by simpa [Tree.X2i] using hi)]
   exact Nat.testBit_lt_two_pow (Nat.lt_of_lt_of_le (h.Y3c s _ (Nat.le_refl _)) (Nat.pow_le_pow_right (by omega) hi))
theorem Q6m (t:Tree) (ev:Nat → Bool):∀ k,(t.Q5y ev k).length = t.basics.length + k
 | 0=>by simp [Tree.Q5y,Tree.X2i]
 | k + 1=>by rw [Tree.Q5y,List.length_append,Q6m t ev k]; simp; omega
theorem Valid.X7p {t:Tree} (h:Valid t) (ev:Nat → Bool) {k:Nat} (hk:k ≤ t.gates.length):Q4l (t.Q5y ev k) < 2 ^ 44:=by
 refine Nat.lt_of_lt_of_le (Y3u _) ?_;rw [Q6m];have:=h.size; have:=h.ng';unfold Tree.size at this;exact Nat.pow_le_pow_right (by omega) (by have:=h.size; unfold Tree.size at this; omega)
theorem Valid.X3u {t:Tree} (h:Valid t) {k:Nat} (hk:k < t.gates.length):X5x (Q0l t.gates k) = true ∧ (∀ x ∈ Q0l t.gates k,0 ≤ x ∧ x < 44):=by
 have h1:=Q2n (Q5z (h.inputs hk)).2;have:=h.size; have:=h.ng';unfold Tree.size at *;exact ⟨h1.2,fun x hx=>by have:=h1.1 x hx; omega⟩
theorem Valid.step {t:Tree} (h:Valid t) (ev:Nat → Bool) {k:Nat} (hk:k < t.gates.length) :
    Q4l (t.Q5y ev (k + 1)) = if (t.gt k).2 ≤ (X0e (Q4l (t.Q5y ev k) &&& (t.gt k).1) 64:Int) then Q4l (t.Q5y ev k) ||| 2 ^ (t.basics.length + k) else Q4l (t.Q5y ev k):=by
 obtain ⟨ha,hb⟩:=h.X3u hk;rw [Tree.Q5y,Y6j,Q6m,Tree.gt,Y1w ha (fun x hx=>by have:=hb x hx; omega)]
 unfold Z5d;simp only [decide_eq_true_eq]
theorem Valid.Z2l {t:Tree} (h:Valid t) {k:Nat} (hk:k < t.gates.length):(t.gt k).1 < 2 ^ 44 :=
 Q9l (by omega) (fun x hx=>((h.X3u hk).2 x hx).2)
def chV (c:List Int):Value:=.agg #[.int .i64 (ix c 0),.int .i64 (ix c 1),.int .i64 (ix c 2),.int .i64 (ix c 3),.int .i64 (ix c 4),.int .i64 (ix c 5),.int .i64 (ix c 6),.int .i64 (ix c 7),.int .i64 (ix c 8),.int .i64 (ix c 9),.int .i64 (ix c 10),.int .i64 (ix c 11)]
def RGt (_:World) (c:Nat → Value) (x:Nat × Int):Prop:=c 0 = .int .i64 (x.1:Nat) ∧ c 1 = .int .i64 x.2
theorem RGt.ext (w w':World) (c:Nat → Value) (x:Nat × Int) (_:Ext w w') (h:RGt w c x):RGt w' c x:=h
def Y5s:World → Value → List (Nat × Int) → Prop:=Go.Tw.Rows 2 RGt
theorem Y5s.ext {w w':World} {v:Value} {l:List (Nat × Int)} (h:Y5s w v l) (hx:Ext w w'):Y5s w' v l:=Rows.ext RGt.ext h hx
def evV (t:Tree) (c:List Int) (fv:Value):Value:=.agg #[.int .i64 t.size,fv,.int .i64 (ix c 0),.int .i64 (ix c 1),.int .i64 (ix c 2),.int .i64 (ix c 3),.int .i64 (ix c 4),.int .i64 (ix c 5),.int .i64 (ix c 6),.int .i64 (ix c 7),.int .i64 (ix c 8),.int .i64 (ix c 9),.int .i64 (ix c 10),.int .i64 (ix c 11)]
def noV (t:Tree) (c:List Int) (fv gv:Value):Value:=.agg #[.int .i64 t.size,fv,.int .i64 (ix c 0),.int .i64 (ix c 1),.int .i64 (ix c 2),.int .i64 (ix c 3),.int .i64 (ix c 4),.int .i64 (ix c 5),.int .i64 (ix c 6),.int .i64 (ix c 7),.int .i64 (ix c 8),.int .i64 (ix c 9),.int .i64 (ix c 10),.int .i64 (ix c 11),.int .i64 t.basics.length,gv]
structure X8r (w:World) (fv gv:Value) (t:Tree):Prop where
 fails:Q0f w fv t.masks
 gates:Y5s w gv t.gts
theorem X8r.ext {w w':World} {fv gv:Value} {t:Tree} (h:X8r w fv gv t) (hx:Ext w w'):X8r w' fv gv t:=⟨h.fails.ext hx,h.gates.ext hx⟩
theorem Y5s.opened {w:World} {v:Value} {t:Tree} (h:Y5s w v t.gts) :
    ∃ A cap,v = .slice A t.gates.length cap ∧ t.gates.length ≤ 17592186043904 ∧ t.gates.length ≤ cap ∧ ∀ k,k < t.gates.length → ∃ b off,A = some ⟨b,off,none⟩ ∧ b < w.heap.size ∧
     w.cell? ⟨b,off + k * 2,none⟩ = some (.int .i64 ((t.gt k).1:Nat)) ∧ w.cell? ⟨b,off + k * 2 + 1,none⟩ = some (.int .i64 (t.gt k).2):=by
 obtain ⟨c,⟨A,cap,hv,hn,hcap,hc⟩,h2⟩:=h;rw [X4x] at hv hn hcap hc;refine ⟨A,cap,hv,hn,hcap,fun k hk=>?_⟩;obtain ⟨b,off,hA,h0⟩:=hc (k * 2) (by omega)
 obtain ⟨b',off',hA',h1⟩:=hc (k * 2 + 1) (by omega)
 rw [hA] at hA'; cases hA';obtain ⟨e0,e1⟩:=h2 k (by rw [X4x]; exact hk)
 have e:t.gts[k]'(by rw [X4x]; exact hk) = t.gt k:=by simp [Tree.gts]
 rw [e] at e0 e1;simp only [Nat.add_zero] at e0;refine ⟨b,off,hA,World.block_lt_of_cell? w _ h0,?_,?_⟩
 · rw [h0,e0]
 · rw [Nat.add_assoc]; exact h1.trans (congrArg some e1)
end Go.Tw
namespace Go.Proofs
open Go.RowKit Go.Tw Go.Flow
theorem Tryz.info4:(Tryz.prog.info? 4).map (fun i=>(i.zero,i.size,i.bytes)) = some (some (.bool false),1,1):=by kernel_rfl
end Go.Proofs
namespace Go.Proofs
open Go.RowKit Go.Tw Go.Flow
theorem Q9w {s:Nat} (hs:s < 2 ^ 62) (i:Nat):(bits .and .i64 ((s:Int) / 2 ^ i) 1 == 1) = s.testBit i:=by
 have h1:(s:Int) / 2 ^ i = ((s / 2 ^ i:Nat):Int):=by simp
 have h2:bits .and .i64 ((s / 2 ^ i:Nat):Int) 1 = ((s / 2 ^ i &&& 1:Nat):Int):=Z2d (a:=s / 2 ^ i) (b:=1) (Nat.lt_of_le_of_lt (Nat.div_le_self _ _) hs) (by decide)
 rw [h1,h2,Nat.and_one_is_mod,Z5w];have h3:s / 2 ^ i % 2 = 0 ∨ s / 2 ^ i % 2 = 1:=by omega
 rcases h3 with h | h <;> rw [h] <;> rfl
set_option maxRecDepth 100000 in
set_option maxHeartbeats 1000000 in
theorem X5a (w:World) (fv gv:Value) (t:Tree) (c:List Int) (s:Nat) (hv:Valid t) (hs:s < 2 ^ t.size) (hn:X8r w fv gv t) :
    Calls Tryz.prog 120 #[noV t c fv gv,.int .i64 s] w fun e w'=>e = .returned (.int .i64 (Q4l (t.states (evN s)):Nat)) ∧ Ext w w':=by
 obtain ⟨hf,hg⟩:=hn;obtain ⟨A,cap,rfl,hl1,hcap,hc⟩:=hf.opened;obtain ⟨A2,cap2,rfl,hl2,hcap2,hc2⟩:=hg.opened;rw [Q2o] at hl1 hcap hc;have hsz:=hv.size;have hng:=hv.ng';have hnb:=hv.nb;have HV:=Lib.hid hv;have HC:=Lib.hid hc;have HC2:=Lib.hid hc2;have hsb:t.basics.length ≤ 12:=by unfold Tree.size at hsz; omega
 have hs12:s < 2 ^ 62:=Nat.lt_of_lt_of_le hs (Nat.pow_le_pow_right (by omega) (by omega))
 have HS:=Lib.hid hs12;clear hf hg hc hc2 hv hs hs12;unfold noV;rw [Q2o];go_enter Tryz.func120,Tryz.ntmps120;go_wp2;obtain ⟨W,hW⟩:∃ W,w.alloc (.cells #[.int .i64 t.size,.slice A t.size cap,.int .i64 (ix c 0),.int .i64 (ix c 1),.int .i64 (ix c 2),.int .i64 (ix c 3),.int .i64 (ix c 4),.int .i64 (ix c 5),.int .i64 (ix c 6),.int .i64 (ix c 7),.int .i64 (ix c 8),.int .i64 (ix c 9),.int .i64 (ix c 10),.int .i64 (ix c 11),.int .i64 t.basics.length,.slice A2 t.gates.length cap2] 121) = W:=⟨_,rfl⟩;have hxW:Ext w W:=by rw [← hW]; exact Ext.box _ _
 have n14:W.cell? ⟨w.heap.size,14,none⟩ = some (.int .i64 t.basics.length):=by rw [← hW]; exact Q0z _ _ _ 14
 have n15:W.cell? ⟨w.heap.size,15,none⟩ = some (.slice A2 t.gates.length cap2):=by rw [← hW]; exact Q0z _ _ _ 15
 rw [hW];clear hW
 go_loop [5,14] (fun o i=>∃ (k:Nat),k ≤ t.size ∧ i = .int .i64 k ∧ o = .int .i64 (t.Y1e s k:Nat)) (fun _ i=>t.size - (intOf i).toNat)
 case atStart=>exact ⟨0,Nat.zero_le _,rfl,rfl⟩
 case round =>
  obtain ⟨k,hk,rfl,rfl⟩:=hrel
  by_cases hlt:k < t.size
  · obtain ⟨b,off,rfl,hcell⟩:=HC.out k hlt
    rw [Z0x hlt] at hcell;replace hcell:=hxW.cell hcell;have hm:=HV.out.X9q hlt;have ho:=HV.out.Y3c s k hk;have hp12:(2:Nat) ^ t.basics.length ≤ 2 ^ 12:=Nat.pow_le_pow_right (by omega) hsb
    have hor:=Z6i (a:=t.Y1e s k) (b:=t.maskAt k) (by omega) (by omega)
    have HO:Hid (t.Y1e s (k + 1) = if s.testBit k then t.Y1e s k ||| t.maskAt k else t.Y1e s k):=by exact (rfl:t.Y1e s (k + 1) = _)
    have hb1:=Q9w HS.out k;obtain ⟨o,he⟩:∃ o,t.Y1e s k = o:=⟨_,rfl⟩;obtain ⟨m,hme⟩:∃ m,t.maskAt k = m:=⟨_,rfl⟩;rw [he,hme] at hor HO;rw [hme] at hcell;rw [he];clear he hme hm ho hp12;cases hb:s.testBit k with
    | true =>
      rw [hb] at HO hb1;clear hb;go_wp2;go_round
      case rel=>exact ⟨k + 1,by omega,by go_num,by rw [HO.out]; rfl⟩
      case measure=>simp [intOf]; omega
    | false =>
      rw [hb] at HO hb1;clear hb;go_wp2;go_round
      case rel=>exact ⟨k + 1,by omega,by go_num,by rw [HO.out]; rfl⟩
      case measure=>simp [intOf]; omega
  · have e0:t.Y1e s k = Q4l (t.Q5y (evN s) 0):=by rw [show k = t.size from by omega,HV.out.Z0u]; rfl
    rw [e0];clear e0;go_wp2
    go_loopw [5,31] (fun o i wr=>∃ (g:Nat),g ≤ t.gates.length ∧ i = .int .i64 g ∧ o = .int .i64 (Q4l (t.Q5y (evN s) g):Nat) ∧ Ext W wr) (fun _ i _=>t.gates.length - (intOf i).toNat)
    case atStart=>exact ⟨0,Nat.zero_le _,rfl,rfl,Ext.refl _⟩
    case round =>
     obtain ⟨g,hg,rfl,rfl,hx⟩:=hrel;replace n14:=hx.cell n14;replace n15:=hx.cell n15
     by_cases hlg:g < t.gates.length
     · obtain ⟨b,off,rfl,hbl,g0,g1⟩:=HC2.out g hlg
       replace g0:=hx.cell (hxW.cell g0);replace g1:=hx.cell (hxW.cell g1);have hm:=HV.out.Z2l hlg;have ho:=HV.out.X7p (evN s) hg;have HST:=Lib.hid (HV.out.step (evN s) hlg);have hand:=Z2d (a:=Q4l (t.Q5y (evN s) g)) (b:=(t.gt g).1) (by omega) (by omega)
       have hor:=Y8a (a:=Q4l (t.Q5y (evN s) g)) (n:=t.basics.length + g) (by omega) (by omega)
       obtain ⟨o,he⟩:∃ o,Q4l (t.Q5y (evN s) g) = o:=⟨_,rfl⟩;obtain ⟨m,hme⟩:∃ m,(t.gt g).1 = m:=⟨_,rfl⟩;obtain ⟨q,hq⟩:∃ q,(t.gt g).2 = q:=⟨_,rfl⟩;rw [he,hme,hq] at HST;rw [he,hme] at hand;rw [he] at ho hor;rw [hme] at g0 hm;rw [hq] at g1;rw [he];clear he hme hq hbl;have hlt64:o &&& m < 2 ^ 64:=Nat.lt_of_le_of_lt Nat.and_le_right (by omega)
       obtain ⟨r,hr⟩:∃ r,o &&& m = r:=⟨_,rfl⟩;rw [hr] at HST hand hlt64;clear hr;obtain ⟨p,hp⟩:∃ p,X0e r 64 = p:=⟨_,rfl⟩;rw [hp] at HST;have HON:Hid (∀ w',Calls Tryz.prog 157 #[.int .u64 r] w' fun e w''=>e = .returned (.int .i64 (p:Nat)) ∧ w' = w''):=by
        exact (by intro w'; rw [← hp]; exact Z0v w' r hlt64:∀ w',Calls Tryz.prog 157 #[.int .u64 r] w' fun e w''=>e = .returned (.int .i64 (p:Nat)) ∧ w' = w'')
       have hwr:IntKind.u64.wrap (r:Int) = (r:Int):=X5i (by omega)
       clear hp hlt64 hm ho
       go_light
       go_wp2;obtain ⟨W2,hW2⟩:∃ W2,wr.alloc (.cells #[.int .i64 m,.int .i64 q] 181) = W2:=⟨_,rfl⟩;have hx2:Ext wr W2:=by rw [← hW2]; exact Ext.box _ _
       have k0:W2.cell? ⟨wr.heap.size,0,none⟩ = some (.int .i64 m):=by rw [← hW2]; exact Q0z _ _ _ 0
       have k1:W2.cell? ⟨wr.heap.size,1,none⟩ = some (.int .i64 q):=by rw [← hW2]; exact Q0z _ _ _ 1
       rw [hW2];replace n14:=hx2.cell n14;have hxr:=hx.trans hx2;clear hW2;refine Flow.Q7w [.plain,.plain,.world,.plain,.world,.world,.plain,.world,.plain] [0,1,2,3,4,5,6,7,8] [[],[],[1],[0,2],[3],[4],[],[6],[5,7]]
        [.is 0 (fun v=>.int .i64 (o:Nat)),.is 1 (fun v=>.pointer (some ⟨wr.heap.size,0,none⟩)),.is 2 (fun v=>.int .i64 (m:Nat)),.is 3 (fun v=>.int .i64 (r:Nat)),.is 4 (fun v=>.int .u64 (r:Nat)),.is 5 (fun v=>.int .i64 (p:Nat)),.is 6 (fun v=>.pointer (some ⟨wr.heap.size,1,none⟩)),.is 7 (fun v=>.int .i64 q),.is 8 (fun v=>.bool (decide (q ≤ (p:Int))))]
        (by kernel_rfl) rfl (by kernel_rfl) ⟨?g0,?g1,?g2,?g3,?g4,?g5,?g6,?g7,?g8,trivial⟩ ?post
       case g0 =>
        intro v w1 hx;have k0:=hx.cell k0;have k1:=hx.cell k1;refine ⟨_,fun w=>?_,rfl⟩;go_simp
       case g1 =>
        intro v w1 hx;have k0:=hx.cell k0;have k1:=hx.cell k1;refine ⟨_,fun w=>?_,rfl⟩;go_simp
       case g2 =>
        intro v w1 hx (q1:v 1 = .pointer (some ⟨wr.heap.size,0,none⟩));have k0:=hx.cell k0;have k1:=hx.cell k1;intro K hK;go_simp;exact hK _ _ (Ext.refl _) rfl
       case g3 =>
        intro v w1 hx (q0:v 0 = .int .i64 (o:Nat)) (q2:v 2 = .int .i64 (m:Nat));have k0:=hx.cell k0;have k1:=hx.cell k1;refine ⟨_,fun w=>?_,rfl⟩;go_simp
       case g4 =>
        intro v w1 hx (q3:v 3 = .int .i64 (r:Nat));have k0:=hx.cell k0;have k1:=hx.cell k1;intro K hK;go_simp;exact hK _ _ (Ext.refl _) rfl
       case g5 =>
        intro v w1 hx (q4:v 4 = .int .u64 (r:Nat));have k0:=hx.cell k0;have k1:=hx.cell k1;intro K hK;go_simp;refine Q0e (HON.out _) ?_;rintro e w2 ⟨rfl,rfl⟩;exact ⟨_,rfl,hK _ _ (Ext.refl _) rfl⟩
       case g6 =>
        intro v w1 hx;have k0:=hx.cell k0;have k1:=hx.cell k1;refine ⟨_,fun w=>?_,rfl⟩;go_simp
       case g7 =>
        intro v w1 hx (q6:v 6 = .pointer (some ⟨wr.heap.size,1,none⟩));have k0:=hx.cell k0;have k1:=hx.cell k1;intro K hK;go_simp;exact hK _ _ (Ext.refl _) rfl
       case g8 =>
        intro v w1 hx (q5:v 5 = .int .i64 (p:Nat)) (q7:v 7 = .int .i64 q);have k0:=hx.cell k0;have k1:=hx.cell k1;refine ⟨_,fun w=>?_,rfl⟩;go_simp
       case post =>
        intro v w1 hx (q0:v 0 = .int .i64 (o:Nat)) (q1:v 1 = .pointer (some ⟨wr.heap.size,0,none⟩)) (q2:v 2 = .int .i64 (m:Nat)) (q3:v 3 = .int .i64 (r:Nat)) (q4:v 4 = .int .u64 (r:Nat)) (q5:v 5 = .int .i64 (p:Nat)) (q6:v 6 = .pointer (some ⟨wr.heap.size,1,none⟩)) (q7:v 7 = .int .i64 q) (q8:v 8 = .bool (decide (q ≤ (p:Int))));simp only [Flow.All,Flow.acts,Act.put];go_simp;replace n14:=((Ext.refl W2).drew.trans hx).cell n14
        by_cases hd:q ≤ (p:Int)
        · rw [if_pos hd] at HST
          rw [decide_eq_true hd];clear hd;go_wp2;go_roundw
          case rel=>exact ⟨g + 1,by omega,by go_num,by rw [HST.out],hxr.trans ((Ext.refl W2).drew.trans hx)⟩
          case measure=>simp [intOf]; omega
        · rw [if_neg hd] at HST
          rw [decide_eq_false hd];clear hd;go_wp2;go_roundw
          case rel=>exact ⟨g + 1,by omega,by go_num,by rw [HST.out],hxr.trans ((Ext.refl W2).drew.trans hx)⟩
          case measure=>simp [intOf]; omega
     · go_wp2
       go_ret;exact ⟨Q1f (by rw [show g = t.gates.length from by omega]; rfl),hxW.trans hx⟩
end Go.Proofs
