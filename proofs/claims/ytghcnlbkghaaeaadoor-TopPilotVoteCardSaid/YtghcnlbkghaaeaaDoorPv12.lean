/- The vote of sensors as a fault tree: its plain law (no program is in sight). Contract: the power of the law's own. Contracts: a list of sets as a list of lists. Contract: slices.SortFunc over sets. -/
import Derived.Test.YtghcnlbkghaaeaaDoorPv01
import Derived.Test.YtghcnlbkghaaeaaDoorPv03
import Derived.Test.YtghcnlbkghaaeaaDoorPv11
set_option maxRecDepth 1000000
set_option maxHeartbeats 64000000
set_option linter.unusedVariables false
set_option linter.unusedSimpArgs false
set_option linter.constructorNameAsVariable false
namespace Go.Tw
def X9w (i:Nat):ByteArray:=⟨#[115,UInt8.ofNat (48 + i)]⟩
def Q0m (n:Nat):Nat:=(n + 1) / 2
def Q0e (n:Nat) (c:Int):Tree:=⟨(List.range n).map fun i=>⟨X9w i,c⟩,[],[⟨sVote,Q0m n,(List.range n).map Int.ofNat⟩]⟩
def Q0w (n:Nat):Nat -> Nat
 | 0=>1
 | k + 1=>Q0w n k * (n - k) / (k + 1)
def Y0a (n c k:Nat):Nat:=Q0w n k * c ^ k * (16 - c) ^ (n - k)
def sumTo (n c:Nat):Nat -> Nat
 | 0=>0
 | k + 1=>sumTo n c k + if Q0m n <= k then Y0a n c k else 0
def Q2l (n s:Nat):Nat:=(List.range n).countP (s.testBit ·)
theorem Y2b (n:Nat) (f:Nat -> Bool) {i:Nat} (h:i < n):bx ((List.range n).map f) i = f i:=by
 unfold bx; simp [List.getD,h]
theorem X0i (n:Nat) (c:Int) (ev:Nat -> Bool) (i:Nat):(Q0e n c).basicB ev i = ev i:=by
 simp [Tree.basicB,Q0e]
theorem Q2y (n:Nat) (c:Int):(Q0e n c).basics.length = n:=by simp [Q0e]
theorem Q2s (n:Nat) (c:Int):(Q0e n c).size = n:=by simp [Tree.size,Q0e]
theorem Q5q (n:Nat) (c:Int) (ev:Nat -> Bool):(Q0e n c).fails ev = decide (Q0m n <= (List.range n).countP ev):=by
 have hb:(Q0e n c).basicsB ev = (List.range n).map ev:=by
  unfold Tree.basicsB;rw [Q2y];exact List.map_congr_left fun i _=>X0i n c ev i
 have hf:failing ((List.range n).map ev) ((List.range n).map Int.ofNat) = (List.range n).countP ev:=by
  unfold failing;rw [List.countP_map];refine List.countP_congr fun i hi=>?_;have hi':i < n:=List.mem_range.1 hi;show bx ((List.range n).map ev) (Int.ofNat i).toNat = true ↔ _;rw [show (Int.ofNat i).toNat = i from rfl,Y2b _ _ hi']
 have hg:(Q0e n c).gates = [⟨sVote,Q0m n,(List.range n).map Int.ofNat⟩]:=rfl;unfold Tree.fails Tree.states Tree.nodes;rw [hg,Q2y];show bx ((Q0e n c).gatesB ev 0 ++ [gateB ((Q0e n c).gatesB ev 0) (gKind (Q0e n c).gates 0) (gNeed (Q0e n c).gates 0) (gInputs (Q0e n c).gates 0)]) (n + 1 - 1) = _;have h0:(Q0e n c).gatesB ev 0 = (List.range n).map ev:=hb;have e1:gKind (Q0e n c).gates 0 = sVote:=rfl;have e2:gNeed (Q0e n c).gates 0 = Q0m n:=rfl;have e3:gInputs (Q0e n c).gates 0 = (List.range n).map Int.ofNat:=rfl;rw [h0,e1,e2,e3];unfold gateB;rw [hf];have hk:needOf sVote (Q0m n) ((List.range n).map Int.ofNat).length = Q0m n:=by
  unfold needOf;rw [if_neg (by decide),if_neg (by decide)]
 rw [hk];unfold bx;rw [List.getD_eq_getElem?_getD,List.getElem?_append_right (by simp),show n + 1 - 1 - ((List.range n).map ev).length = 0 by simp]
 simp only [List.getElem?_cons_zero,Option.getD_some];rw [decide_eq_decide];exact Int.ofNat_le
theorem X0y:∀ {l:List Int} {n:Nat},l.Nodup -> (∀ x ∈ l,0 <= x /\ x < n) -> (List.range n).countP (evL l) = l.length:=by
 intro l n hd hr;rw [List.countP_eq_length_filter];have hp:((List.range n).filter (evL l)).map Int.ofNat |>.Perm l:=by
  refine (List.perm_ext_iff_of_nodup ?_ hd).2 fun x=>?_
  . refine List.Pairwise.map _ ?_ ((List.nodup_range).filter _)
    intro a b h e; exact h (Int.ofNat.inj e)
  . rw [List.mem_map]
    constructor
    . rintro ⟨i,hi,rfl⟩
      have:=(List.mem_filter.1 hi).2;unfold evL has at this
      simpa using this
    . intro hx
      have h1:=hr x hx;refine ⟨x.toNat,List.mem_filter.2 ⟨List.mem_range.2 (by omega),?_⟩,by show ((x.toNat:Nat):Int) = x; omega⟩
      unfold evL has;rw [show ((x.toNat:Nat):Int) = x by omega]
      simpa using hx
 have:=hp.length_eq;rw [List.length_map] at this;exact this
theorem Q6e {n s i:Nat} (hs:s < 2 ^ n) (hi:n <= i):s.testBit i = false:=Nat.testBit_lt_two_pow (Nat.lt_of_lt_of_le hs (Nat.pow_le_pow_right (by omega) hi))
theorem Q6t {n s:Nat} (hs:s < 2 ^ n) {x:Int} (h:x ∈ bitsOf s):0 <= x /\ x < n:=by
 unfold bitsOf at h;rw [List.mem_map] at h;obtain ⟨i,hi,rfl⟩:=h;have h2:=(List.mem_filter.1 hi).2;refine ⟨Int.natCast_nonneg _,?_⟩;have:i < n:=by
  apply Nat.lt_of_not_le
  intro hle;rw [Q6e hs hle] at h2;cases h2
 exact Int.ofNat_lt.2 this
theorem Q5k (s:Nat):(bitsOf s).Nodup:=by
 unfold bitsOf;refine List.Pairwise.map _ ?_ ((List.nodup_range).filter _);intro a b h e; exact h (Int.ofNat.inj e)
theorem Q4f {n s:Nat} (hn:n <= 16) (hs:s < 2 ^ n):(bitsOf s).length = Q2l n s:=by
 unfold bitsOf Q2l;rw [List.length_map,<- List.countP_eq_length_filter];have e:List.range 16 = List.range n ++ (List.range (16 - n)).map (n + ·):=by
  rw [<- List.range_add]
  congr 1
  omega
 rw [e];rw [List.countP_append,List.countP_map];have:(List.range (16 - n)).countP ((fun x=>s.testBit x) ∘ fun x=>n + x) = 0:=by
  rw [List.countP_eq_zero];intro i _;show ¬ s.testBit (n + i) = true;rw [Q6e hs (by omega)]; simp
 rw [this,Nat.add_zero]
theorem Q6a {n s:Nat} {c:Int} (h1:1 <= n) (hn:n <= 16) (hs:s < 2 ^ n):(Q0e n c).minimalB (bitsOf s) false = decide (Q2l n s = Q0m n):=by
 unfold Tree.minimalB;have hset:∀ l:List Int,l.Nodup -> (∀ x ∈ l,0 <= x /\ x < (n:Int)) -> (Q0e n c).setB l false = decide (Q0m n <= l.length):=by
  intro l hd hr;unfold Tree.setB;rw [if_neg (by decide),Q5q,X0y hd hr]
 have hb:=hset (bitsOf s) (Q5k s) fun x hx=>Q6t hs hx;rw [hb,Q4f hn hs];have hlen:=Q4f hn hs;have hw:∀ k,k < (bitsOf s).length -> (Q0e n c).setB (without (bitsOf s) k) false = decide (Q0m n <= Q2l n s - 1):=by
  intro k hk;have hsub:(without (bitsOf s) k).Sublist (bitsOf s):=by
   unfold without;rw [show (bitsOf s).take k ++ (bitsOf s).drop (k + 1) = (bitsOf s).eraseIdx k from (List.eraseIdx_eq_take_drop_succ ..).symm]
   exact List.eraseIdx_sublist ..
  rw [hset _ ((Q5k s).sublist hsub) fun x hx=>Q6t hs (hsub.subset hx)];have:(without (bitsOf s) k).length = Q2l n s - 1:=by
   unfold without;rw [List.length_append,List.length_take,List.length_drop];omega
  rw [this]
 have hneed:1 <= Q0m n:=by unfold Q0m; omega
 rw [hlen] at hw;rw [Bool.eq_iff_iff];simp only [Bool.and_eq_true,decide_eq_true_eq,Bool.not_eq_true',List.any_eq_false,List.mem_range]
 constructor
 . rintro ⟨a,b⟩
   have h0:=b 0 (by omega)
   rw [hw 0 (by omega)] at h0
   have:¬ Q0m n <= Q2l n s - 1:=fun h=>h0 (decide_eq_true h);omega
 . intro h
   refine ⟨by omega,fun k hk=>?_⟩
   rw [hw k hk];simp only [decide_eq_true_eq];omega
theorem Q7l (l:List Int) (out:List (List Int)):(insertBack l out).length = out.length + 1:=by
 unfold insertBack;rw [List.length_append,List.length_append,List.length_take,List.length_drop,List.length_singleton];have:posBack l out out.length <= out.length:=by
  have:∀ m,posBack l out m <= m:=by
   intro m
   induction m with
   | zero=>exact Nat.le_refl _
   | succ m ih=>unfold posBack; split; omega; omega
  exact this _
 omega
theorem Q8d {l x:List Int} {out:List (List Int)} (h:x ∈ insertBack l out):x = l ∨ x ∈ out:=by
 unfold insertBack at h
 rcases List.mem_append.1 h with h | h
 . rcases List.mem_append.1 h with h | h
   . exact .inr (List.mem_of_mem_take h)
   . exact .inl (List.mem_singleton.1 h)
 . exact .inr (List.mem_of_mem_drop h)
theorem X4o (p:Nat -> Bool):∀ (l:List Nat) (out:List (List Int)),(l.foldl (fun out s=>if p s then insertBack (bitsOf s) out else out) out).length = out.length + l.countP p
 | [],out=>by simp
 | s :: l,out=>by
   rw [List.foldl_cons,X4o p l,List.countP_cons]
   by_cases h:p s = true
   . rw [if_pos h,if_pos h,Q7l]; omega
   . rw [if_neg h,if_neg h]; omega
theorem X4i (p:Nat -> Bool) (Q:List Int -> Prop):∀ (l:List Nat) (out:List (List Int)),(∀ x ∈ out,Q x) -> (∀ s ∈ l,p s = true -> Q (bitsOf s)) -> ∀ x ∈ l.foldl (fun out s=>if p s then insertBack (bitsOf s) out else out) out,Q x
 | [],out,ho,_=>ho
 | s :: l,out,ho,hl=>by
   rw [List.foldl_cons];refine X4i p Q l _ ?_ fun s' hs'=>hl s' (List.mem_cons_of_mem _ hs');intro x hx
   by_cases h:p s = true
   . rw [if_pos h] at hx
     rcases Q8d hx with rfl | hx
     . exact hl s (List.mem_cons_self ..) h
     . exact ho x hx
   . rw [if_neg h] at hx; exact ho x hx
def okC:Bool:=(List.range 9).all fun n=>decide ((List.range (2 ^ (n + 1))).countP (fun s=>decide (Q2l (n + 1) s = Q0m (n + 1))) = Q0w (n + 1) (Q0m (n + 1)))
theorem Y1b:okC = true:=by decide +kernel
theorem X1f {n:Nat} (c:Int) (h1:1 <= n) (hn:n <= 9):((Q0e n c).sets false).length = Q0w n (Q0m n) /\ ∀ l ∈ (Q0e n c).sets false,l.length = Q0m n:=by
 unfold Tree.sets;rw [Q2s]
 constructor
 . rw [X4o]
   have h:=List.all_eq_true.1 Y1b (n - 1) (List.mem_range.2 (by omega))
   rw [show n - 1 + 1 = n by omega] at h
   have h:=of_decide_eq_true h;rw [List.length_nil,Nat.zero_add,<- h];refine List.countP_congr fun s hs=>?_;rw [Q6a h1 (by omega) (List.mem_range.1 hs)]
 . refine X4i _ (fun l=>l.length = Q0m n) _ _ (fun x hx=>absurd hx (List.not_mem_nil)) fun s hs h=>?_
   rw [Q6a h1 (by omega) (List.mem_range.1 hs)] at h
   rw [Q4f (by omega) (List.mem_range.1 hs)]
   exact of_decide_eq_true h
theorem X0b (n:Nat) (c:Int):(Q0e n c).chances = List.replicate n c:=by
 unfold Tree.chances;rw [Q2s];refine List.ext_getElem (by simp) fun i h1 h2=>?_
 have hi:i < n:=by simpa using h1
 simp [Tree.chanceAt,bChance,Q0e,hi]
theorem X7x (n s:Nat):Q2l n s <= n:=by
 unfold Q2l;exact Nat.le_trans (List.countP_le_length ..) (by simp)
theorem X6l (n s:Nat):Q2l (n + 1) s = Q2l n s + if s.testBit n then 1 else 0:=by
 unfold Q2l;rw [List.range_succ,List.countP_append,List.countP_cons,List.countP_nil,Nat.zero_add]
theorem Q8l {n:Nat} {c:Nat} (hc:c <= 16) (s:Nat):∀ j,j <= n -> partTo (List.replicate n (c:Int)) s j = ((c ^ Q2l j s * (16 - c) ^ (j - Q2l j s):Nat):Int)
 | 0,_=>by simp [partTo,Q2l]
 | j + 1,h=>by
   unfold partTo factor;rw [Q8l hc s j (by omega),X6l]
   have e:ix (List.replicate n (c:Int)) j = c:=by simp [ix,List.getD,show j < n by omega]
   have hle:=X7x j s;rw [e]
   by_cases hb:s.testBit j = true
   . rw [if_pos hb,if_pos hb,Nat.pow_succ,show j + 1 - (Q2l j s + 1) = j - Q2l j s by omega]
     simp only [Int.natCast_mul];rw [Int.mul_right_comm]
   . rw [if_neg hb,if_neg hb,Nat.add_zero,show j + 1 - Q2l j s = j - Q2l j s + 1 by omega,Nat.pow_succ,<- Nat.mul_assoc,Int.natCast_mul _ (16 - c),show ((16 - c:Nat):Int) = 16 - (c:Int) by omega]
def Q8b (n k:Nat) (m:Nat):Nat:=(List.range m).countP fun s=>decide (Q2l n s = k)
def X2y (f:Nat -> Nat):Nat -> Nat
 | 0=>0
 | k + 1=>X2y f k + f k
theorem Q9b {f g:Nat -> Nat}:∀ {m:Nat},(∀ k,k < m -> f k = g k) -> X2y f m = X2y g m
 | 0,_=>rfl
 | m + 1,h=>by unfold X2y; rw [Q9b fun k hk=>h k (by omega),h m (by omega)]
theorem X8d (f:Nat -> Nat) (a:Nat) (x:Nat):∀ m,X2y (fun k=>f k + if k = a then x else 0) m = X2y f m + if a < m then x else 0
 | 0=>by simp [X2y]
 | m + 1=>by
   unfold X2y;rw [X8d f a x m]
   by_cases h1:m = a
   . subst h1; simp; omega
   . rw [if_neg h1]
     by_cases h2:a < m
     . rw [if_pos h2,if_pos (by omega)]; omega
     . rw [if_neg h2,if_neg (by omega)]
       omega
theorem Q8n {n c:Nat} (hc:c <= 16):∀ m,(Q0e n c).weightTo (List.replicate n (c:Int)) m = (X2y (fun k=>if Q0m n <= k then Q8b n k m * (c ^ k * (16 - c) ^ (n - k)) else 0) (n + 1):Nat)
 | 0=>by
   have:∀ m,X2y (fun k=>if Q0m n <= k then Q8b n k 0 * (c ^ k * (16 - c) ^ (n - k)) else 0) m = 0:=by
    intro m
    induction m with
    | zero=>rfl
    | succ m ih=>unfold X2y; rw [ih]; simp [Q8b]
   rw [this]; rfl
 | s + 1=>by
   unfold Tree.weightTo;rw [Q8n hc s,Q5q];have ev:(List.range n).countP (evN s) = Q2l n s:=rfl;rw [ev];unfold partOf;rw [List.length_replicate,Q8l hc s n (Nat.le_refl _)];have hcnt:∀ k,Q8b n k (s + 1) = Q8b n k s + if k = Q2l n s then 1 else 0:=by
    intro k;unfold Q8b;rw [List.range_succ,List.countP_append,List.countP_cons,List.countP_nil,Nat.zero_add]
    congr 1
    by_cases h:Q2l n s = k
    . rw [if_pos (decide_eq_true h),if_pos h.symm]
    . rw [if_neg (by simpa using h),if_neg (fun e=>h e.symm)]
   have hstep:X2y (fun k=>if Q0m n <= k then Q8b n k (s + 1) * (c ^ k * (16 - c) ^ (n - k)) else 0) (n + 1) = X2y (fun k=>(if Q0m n <= k then Q8b n k s * (c ^ k * (16 - c) ^ (n - k)) else 0) + if k = Q2l n s then (if Q0m n <= Q2l n s then c ^ Q2l n s * (16 - c) ^ (n - Q2l n s) else 0) else 0) (n + 1):=by
    refine Q9b fun k _=>?_;rw [hcnt]
    by_cases h1:k = Q2l n s
    . subst h1
      rw [if_pos rfl,if_pos rfl]
      by_cases h2:Q0m n <= Q2l n s
      . rw [if_pos h2,if_pos h2,if_pos h2,Nat.add_mul,Nat.one_mul]
      . rw [if_neg h2,if_neg h2,if_neg h2]
    . rw [if_neg h1,if_neg h1,Nat.add_zero,Nat.add_zero]
   have hlt:Q2l n s < n + 1:=by have:=X7x n s; omega
   rw [hstep,X8d,if_pos hlt]
   by_cases h2:Q0m n <= Q2l n s
   . rw [if_pos (decide_eq_true h2),if_pos h2,Int.natCast_add]
   . rw [if_neg (by simpa using h2),if_neg h2,Int.add_zero]
     rfl
def okW:Bool:=(List.range 9).all fun n=>(List.range (n + 2)).all fun k=>decide (Q8b (n + 1) k (2 ^ (n + 1)) = Q0w (n + 1) k)
theorem Y1l:okW = true:=by decide +kernel
theorem Y2d {n c:Nat} (h1:1 <= n) (hn:n <= 9) (hc:c <= 16):(Q0e n c).weight (Q0e n c).chances = (sumTo n c (n + 1):Nat):=by
 unfold Tree.weight;rw [X0b,Q2s,Q8n hc]
 congr 1
 have:∀ m,m <= n + 1 -> X2y (fun k=>if Q0m n <= k then Q8b n k (2 ^ n) * (c ^ k * (16 - c) ^ (n - k)) else 0) m = sumTo n c m:=by
  intro m
  induction m with
  | zero=>intro _; rfl
  | succ m ih =>
    intro hm;unfold X2y sumTo Y0a;rw [ih (by omega)]
    have h:=List.all_eq_true.1 Y1l (n - 1) (List.mem_range.2 (by omega))
    have h:=List.all_eq_true.1 h m (List.mem_range.2 (by omega))
    rw [show n - 1 + 1 = n by omega] at h
    rw [of_decide_eq_true h,Nat.mul_assoc]
 exact this _ (Nat.le_refl _)
def okE:Bool:=(List.range 9).all fun n=>(List.range 17).all fun c=>decide ((Q0e (n + 1) c).err = 0)
theorem Y0u:okE = true:=by decide +kernel
theorem Q6s {n c:Nat} (h1:1 <= n) (hn:n <= 9) (hc:c <= 16):(Q0e n c).err = 0:=by
 have h:=List.all_eq_true.1 Y0u (n - 1) (List.mem_range.2 (by omega))
 have h:=List.all_eq_true.1 h c (List.mem_range.2 (by omega))
 rw [show n - 1 + 1 = n by omega] at h
 exact of_decide_eq_true h
def Y2z:Bool:=(List.range 9).all fun n=>(List.range 17).all fun c=>(List.range (n + 3)).all fun k=>decide (Q0w (n + 1) k <= 126) && decide (Q0w (n + 1) k * c ^ k <= 2 ^ 60) && decide (Y0a (n + 1) c k <= 2 ^ 60) && decide (sumTo (n + 1) c k <= 2 ^ 60)
theorem Y0y:Y2z = true:=by decide +kernel
def X8n (l:List Int) (x:Int):Bool:=decide (l.length < 2 * l.countP (· == x))
def Q7c (l:List Int):Option Int:=l.find? (X8n l)
def X1h (s:Nat) (r:Int) (i:Nat):Int:=if s.testBit i then 400 + i else r
def Q3m (n s:Nat) (r:Int):List Int:=(List.range n).map (X1h s r)
theorem X7y {l:List Int} {x y:Int} (h:x ≠ y):l.countP (· == x) + l.countP (· == y) <= l.length:=by
 induction l with
 | nil=>simp
 | cons z l ih =>
   rw [List.countP_cons,List.countP_cons,List.length_cons]
   by_cases h1:z = x
   . subst h1
     rw [if_pos (by simp),if_neg (by simp [h])]
     omega
   . rw [if_neg (by simpa using h1)]
     split <;> omega
theorem X8k {n s:Nat} {r:Int} (hr:r < 400):(Q3m n s r).countP (· == r) + Q2l n s = n:=by
 unfold Q3m Q2l
 induction n with
 | zero=>rfl
 | succ n ih =>
   rw [List.range_succ,List.map_append,List.countP_append,List.countP_append,List.map_singleton,List.countP_singleton,List.countP_singleton];unfold X1h at ih ⊢
   by_cases h:s.testBit n = true
   . rw [if_pos h,if_neg (by simp; omega),if_pos h]; omega
   . rw [if_neg h,if_pos (by simp),if_neg h]; omega
theorem X4x {n s:Nat} {r:Int} (hr:r < 400):Q7c (Q3m n s r) = some r ↔ ¬ Q0m n <= Q2l n s:=by
 have hc:=X8k (n:=n) (s:=s) hr;have hl:(Q3m n s r).length = n:=by simp [Q3m]
 have hm:X8n (Q3m n s r) r = true ↔ ¬ Q0m n <= Q2l n s:=by
  unfold X8n Q0m;rw [decide_eq_true_eq,hl];omega
 constructor
 . intro h; exact hm.1 (List.find?_some h)
 . intro h
   have h2:=hm.2 h;unfold Q7c;cases hf:(Q3m n s r).find? (X8n (Q3m n s r)) with
   | none =>
     have hmem:r ∈ Q3m n s r:=by
      have:0 < (Q3m n s r).countP (· == r):=by
       unfold X8n at h2;have:=of_decide_eq_true h2;omega
      obtain ⟨x,hx,hx2⟩:=List.countP_pos_iff.1 this;have e:x = r:=by simpa using hx2
      subst e;exact hx
     exact absurd h2 (by simpa using List.find?_eq_none.1 hf r hmem)
   | some x =>
     by_cases hx:x = r
     . rw [hx]
     . have h3:=List.find?_some hf
       have h4:=X7y (l:=Q3m n s r) hx;unfold X8n at h2 h3;have h2:=of_decide_eq_true h2;have h3:=of_decide_eq_true h3;omega
end Go.Tw
namespace Go.Proofs
open Go.RowKit Go.Tw Go.Flow
theorem X0e {a n k:Nat} (ha:a <= 16) (hk:k <= n) (hn:n <= 12):a ^ k <= 281474976710656:=by
 refine Nat.le_trans (Nat.pow_le_pow_left ha k) (Nat.le_trans (Nat.pow_le_pow_right (by omega) (show k <= 12 by omega)) (by decide))
theorem Q2q (w:World) (a n:Nat) (ha:a <= 16) (hn:n <= 12) :
    Calls Tryd.prog 23 #[.int .i64 a,.int .i64 n] w fun e w'=>e = .returned (.int .i64 (Q4h a n)) /\ w = w':=by
 go_enter Tryd.func23,Tryd.ntmps23;go_wp2
 go_loop [5,7] (fun p i=>∃ (k q:Nat),k <= n /\ i = .int .i64 k /\ p = .int .i64 q /\ q = a ^ k) (fun _ i=>n - (intOf i).toNat)
 case atStart=>exact ⟨0,1,Nat.zero_le _,rfl,rfl,rfl⟩
 case round =>
  obtain ⟨k,q,hk,rfl,rfl,hq⟩:=hrel
  by_cases hlt:k < n
  . have h1:q * a <= 281474976710656:=by
     rw [hq,<- Nat.pow_succ]; exact X0e ha (show k + 1 <= n by omega) hn
    obtain ⟨r,hr⟩:∃ r,q * a = r:=⟨_,rfl⟩;have e1:(q:Int) * (a:Int) = (r:Int):=by rw [<- hr]; simp
    have HQ:=Lib.hid hq; clear hq;rw [hr] at h1;have HR:=Lib.hid hr; clear hr;go_wp2;go_round
    case rel=>exact ⟨k + 1,r,by omega,by go_num,rfl,by rw [<- HR.out,HQ.out,<- Nat.pow_succ]⟩
    case measure=>simp [intOf]; omega
  . have HQ:=Lib.hid hq; clear hq
    go_wp2;go_ret;exact ⟨ret_int (by rw [HQ.out,show k = n from by omega]; rfl),rfl⟩
end Go.Proofs
namespace Go.Proofs
open Go.RowKit Go.Tw Go.Flow
theorem X9e (w:World) (x:Value):Calls Tryd.prog 111 #[x] w fun e w'=>e = .returned x /\ w = w':=by
 go_enter Tryd.func111,Tryd.ntmps111;go_wp2;go_ret;exact ⟨rfl,rfl⟩
theorem Q7e {w:World} {vs:List Value} {ll:List (List Int)} {v:Value} {k:Nat} (h:Reads w vs (ll.take k)) (hk:k < ll.length) (hv:IsInts w v (ll.getD k [])):Reads w (vs ++ [v]) (ll.take (k + 1)):=by
 have e:ll.take (k + 1) = ll.take k ++ [ll.getD k []]:=by rw [List.take_succ_eq_append_getElem hk]; simp [hk]
 rw [e];exact h.snoc hv
theorem Q7p (w:World) (v:Value) (ll:List (List Int)) (hv:IsIntss w v ll) (hle:ll.length <= 4096) :
    Calls Tryd.prog 110 #[v,.func (.func 111) #[] #[]] w fun e w'=>∃ x,e = .returned x /\ IsIntss w' x ll /\ Ext w w':=by
 obtain ⟨i0,hi,hz0,hz1,hz2⟩:=info_parts Tryd.Y2c;obtain ⟨A,cap,rfl,hl,hcap,hc⟩:=hv.opened;have HC:=Lib.hid hc;clear hv hc;go_enter Tryd.func110,Tryd.ntmps110;go_wp2
 go_loopw [5,10] (fun o i wr=>∃ (k:Nat) (vs:List Value),k <= ll.length /\ i = .int .i64 k /\ Q0f wr w.heap.size 32 idV o vs /\ Reads w vs (ll.take k) /\ Ext w wr) (fun _ i _=>ll.length - (intOf i).toNat)
 case atStart=>exact ⟨0,[],Nat.zero_le _,rfl,Q0f.nil _ _ _ _,⟨rfl,fun i hi=>by simp at hi⟩,Ext.refl _⟩
 case round =>
  obtain ⟨k,vs,hk,rfl,hown,hrd,hx⟩:=hrel
  by_cases hlt:k < ll.length
  . obtain ⟨b,off,m,rfl,hbw,hcell,hm⟩:=HC.out k hlt
    obtain ⟨Am,cm,rfl,_,_,_⟩:=hm.opened;obtain ⟨ln,hln⟩:∃ ln,(ll.getD k []).length = ln:=⟨_,rfl⟩;rw [hln] at hcell hm;have HM:=Lib.hid hm;clear hln;replace hcell:=hx.cell hcell;have hvs:vs.length = k:=by rw [hrd.1,List.length_take]; omega
    have HRD:=Lib.hid hrd;clear hm hrd;go_wp2_with (first | (go_at_call 111; refine (X9e _ _).mono ?_; rintro e w9 ⟨rfl,rfl⟩) | (at_builtin; refine wpList_append_own _ rfl _ _ 77 rfl (w.heap.size) 32 i0 (.slice none 0 0) 1 24 Tryd.underlying77 hi hz0 hz1 hz2 rfl (by decide) _ _ _ rfl (World.ownsRow.alloc hown _) ⟨wr.heap.size,0,none⟩ 1 1 [.slice Am ln cm] rfl rfl ?_ ?_ ?_ ?_ ?_ ?_; exact Q3p _ _ _; (focus (simp [Value.oneCell'])); (focus (unfold maxLen; omega)); (focus omega); (focus (have:=hx.size; simp at this ⊢; omega)); intro v' w1 hown' hgrow _))
    have hx':=Q1z hx hown (Nat.le_refl _) hgrow;go_wp2;go_roundw
    case rel=>exact ⟨k + 1,vs ++ [.slice Am ln cm],by omega,by go_num,Q0f.snoc (x:=Value.slice Am ln cm) hown',Q7e HRD.out hlt HM.out,hx'⟩
    case measure=>simp [intOf]; omega
  . have HE:Hid (ll.take k = ll):=by rw [List.take_of_length_le (by omega)]; exact rfl
    have hvl:vs.length <= 17592186043904:=by rw [hrd.1,List.length_take]; omega
    have HRD:=Lib.hid hrd;clear hrd;go_wp2;go_ret;exact ⟨_,rfl,hown.Y2n (by rw [<- HE.out]; exact HRD.out.ext hx) (by omega),hx⟩
end Go.Proofs
namespace Go.Proofs
open Go.RowKit Go.Tw Go.Flow Go.Sort
theorem Y1a (x y:Int):X7n x y < 0 ↔ x < y:=by unfold X7n; split <;> (try split) <;> omega
theorem Q1y (x y:Int) (l m:List Int):cmpL (x :: l) (y :: m) < 0 ↔ x < y ∨ (x = y /\ cmpL l m < 0):=by
 show (if x = y then cmpL l m else X7n x y) < 0 ↔ _
 split
 . rename_i h; simp [h]
 . rename_i h; rw [Y1a]; simp [h]
theorem X4l:∀ a b:List Int,cmpL a b < 0 ∨ a = b ∨ cmpL b a < 0
 | [],[]=>.inr (.inl rfl)
 | [],_ :: _=>.inl (by exact (by decide:(-1:Int) < 0))
 | _ :: _,[]=>.inr (.inr (by exact (by decide:(-1:Int) < 0)))
 | x :: l,y :: m=>by
   rw [Q1y,Q1y]
   rcases Int.lt_trichotomy x y with h | h | h
   . exact .inl (.inl h)
   . subst h
     rcases X4l l m with h | h | h
     . exact .inl (.inr ⟨rfl,h⟩)
     . subst h; exact .inr (.inl rfl)
     . exact .inr (.inr (.inr ⟨rfl,h⟩))
   . exact .inr (.inr (.inl h))
theorem Q8t:∀ a b c:List Int,cmpL a b < 0 -> cmpL b c < 0 -> cmpL a c < 0
 | [],[],_,h,_=>by simp [cmpL] at h
 | [],_ :: _,[],_,h=>by simp [cmpL] at h
 | [],_ :: _,_ :: _,_,_=>by simp [cmpL]
 | _ :: _,[],_,h,_=>by simp [cmpL] at h
 | _ :: _,_ :: _,[],_,h=>by simp [cmpL] at h
 | x :: l,y :: m,z :: n,h1,h2=>by
   rw [Q1y] at *
   rcases h1 with h1 | ⟨h1,h1'⟩ <;> rcases h2 with h2 | ⟨h2,h2'⟩
   . exact .inl (by omega)
   . exact .inl (by omega)
   . exact .inl (by omega)
   . exact .inr ⟨by omega,Q8t l m n h1' h2'⟩
theorem X2d (a:List Int):¬ cmpL a a < 0:=by
 induction a with
 | nil=>decide
 | cons x l ih=>rw [Q1y]; rintro (h | ⟨_,h⟩) <;> omega
theorem Q3r (a b:List Int):Q1m a b < 0 ↔ a.length < b.length ∨ (a.length = b.length /\ cmpL a b < 0):=by
 unfold Q1m
 split
 . rename_i h; simp [h]
 . rename_i h; omega
theorem Q4t (a:List Int):¬ Q1m a a < 0:=by rw [Q3r]; have:=X2d a; omega
theorem Q2o {a b c:List Int} (h1:Q1m a b < 0) (h2:Q1m b c < 0):Q1m a c < 0:=by
 rw [Q3r] at *
 rcases h1 with h1 | ⟨h1,h1'⟩ <;> rcases h2 with h2 | ⟨h2,h2'⟩
 . exact .inl (by omega)
 . exact .inl (by omega)
 . exact .inl (by omega)
 . exact .inr ⟨by omega,Q8t _ _ _ h1' h2'⟩
theorem Q5m (a b:List Int):Q1m a b < 0 ∨ a = b ∨ Q1m b a < 0:=by
 rw [Q3r,Q3r]
 rcases Nat.lt_trichotomy a.length b.length with h | h | h
 . exact .inl (.inl h)
 . rcases X4l a b with h' | h' | h'
   . exact .inl (.inr ⟨h,h'⟩)
   . exact .inr (.inl h')
   . exact .inr (.inr (.inr ⟨h.symm,h'⟩))
 . exact .inr (.inr (.inl h))
theorem X5a (f:Nat -> List Int):SWO (ltOf fun x y:Nat=>Q1m (f x) (f y)) where
 irrefl x:=by simpa [ltOf] using Q4t (f x)
 trans x y z h1 h2:=by simp only [ltOf,decide_eq_true_eq] at *; exact Q2o h1 h2
 ntrans x y z h1 h2:=by
  simp only [ltOf,decide_eq_false_iff_not] at *;intro h
  rcases Q5m (f x) (f y) with h' | h' | h'
  . exact h1 h'
  . rw [h'] at h; exact h2 h
  . exact h2 (Q2o h' h)
def Sets (w:World) (vs:List Value) (ll:List (List Int)):Prop:=vs.length = ll.length /\ ∀ i,i < ll.length -> Q0f w 0 3 (.int .i64) (vs.getD i undef) (ll.getD i []) /\ (ll.getD i []).length <= 16
theorem Q9v {w W:World} {v:Value} {l:List Int} (h:Q0f w 0 3 (.int .i64) v l) (hb:∀ b,v.ownBlock = some b -> b < w.heap.size -> W.heap[b]? = w.heap[b]?):Q0f W 0 3 (.int .i64) v l:=by
 obtain ⟨h1,h2⟩:=h;refine ⟨h1,?_⟩
 rcases h2 with h2 | ⟨g,cap,cur,hv,hbg,hg,r⟩
 . exact .inl h2
 . exact .inr ⟨g,cap,cur,hv,hbg,(hb g (by rw [hv]; rfl) (Array.getElem?_eq_some_iff.1 hg).1).trans hg,r⟩
theorem X3u {w:World} {v:Value} {l:List Int} {g:Nat} {cur:Array Value} {fr:Nat × Nat} (h:Q0f w 0 3 (.int .i64) v l) (hg:w.heap[g]? = some (.cells cur 182 fr)):v.ownBlock ≠ some g:=by
 intro e;obtain ⟨h1,h2⟩:=h
 rcases h2 with ⟨rfl,_⟩ | ⟨g',cap,cur',rfl,hbg,hg',r⟩
 . cases e
 . obtain rfl:g' = g:=by simpa [Value.ownBlock] using e
   rw [hg] at hg';injection hg' with h;injection h with _ h;exact absurd h (by decide)
theorem Sets.at {w W:World} {vs:List Value} {ll:List (List Int)} (h:Sets w vs ll) (hb:∀ v l,Q0f w 0 3 (.int .i64) v l -> ∀ b,v.ownBlock = some b -> b < w.heap.size -> W.heap[b]? = w.heap[b]?):Sets W vs ll :=
 ⟨h.1,fun i hi=>⟨Q9v (h.2 i hi).1 (hb _ _ (h.2 i hi).1),(h.2 i hi).2⟩⟩
theorem Sets.ext {w W:World} {vs:List Value} {ll:List (List Int)} (h:Sets w vs ll) (hx:Ext w W):Sets W vs ll:=h.at fun _ _ _ b _ hb=>Below.block hx b hb
theorem Sets.reads {w:World} {vs:List Value} {ll:List (List Int)} (h:Sets w vs ll):Reads w vs ll:=⟨h.1,fun i hi=>(h.2 i hi).1.ints (by have:=(h.2 i hi).2; omega)⟩
theorem Sets.nil (w:World):Sets w [] []:=⟨rfl,fun i hi=>by simp at hi⟩
theorem Sets.snoc {w:World} {vs:List Value} {ll:List (List Int)} {v:Value} {l:List Int} (h:Sets w vs ll) (hv:Q0f w 0 3 (.int .i64) v l) (hl:l.length <= 16):Sets w (vs ++ [v]) (ll ++ [l]):=by
 refine ⟨by simp [h.1],fun i hi=>?_⟩
 rw [List.length_append,List.length_singleton] at hi
 by_cases hlt:i < ll.length
 . have e1:(vs ++ [v]).getD i undef = vs.getD i undef:=by simp [List.getElem?_append_left (show i < vs.length by rw [h.1]; exact hlt)]
   have e2:(ll ++ [l]).getD i [] = ll.getD i []:=by simp [List.getElem?_append_left hlt]
   rw [e1,e2]; exact h.2 i hlt
 . have e:i = ll.length:=by omega
   have e1:(vs ++ [v]).getD i undef = v:=by rw [e,<- h.1]; simp
   have e2:(ll ++ [l]).getD i [] = l:=by rw [e]; simp
   rw [e1,e2]; exact ⟨hv,hl⟩
theorem Q1v {α:Type} [Inhabited α] (enc:α -> Value) (w:World) (blk off n:Nat) (d:Array α) (os:Array Obj) {k:Nat} (hk:k < w.heap.size) (hne:k ≠ blk):(sortWorld enc w blk off n d os).heap[k]? = w.heap[k]?:=by
 unfold sortWorld;rw [heap_grow_old _ _ (by rw [size_putRow]; exact hk)]
 show (w.heap.modify blk _)[k]? = _;rw [Array.getElem?_modify,if_neg (fun h=>hne h.symm)]
theorem Q8h {α:Type} [Inhabited α] (enc:α -> Value) (w:World) (blk off n:Nat) (d:Array α) (os:Array Obj):w.heap.size <= (sortWorld enc w blk off n d os).heap.size:=by
 unfold sortWorld;rw [size_grow,size_putRow]; show w.heap.size <= w.heap.size + _; omega
theorem Q7z {α:Type} [Inhabited α] (enc:α -> Value) (w:World) (blk off n:Nat) (d:Array α) (os:Array Obj):w.grownBy (sortWorld enc w blk off n d os) (some blk) :=
 ⟨rfl,rfl,rfl,Q8h _ _ _ _ _ _ _,fun k hk hne=>Q1v _ _ _ _ _ _ _ hk (fun e=>hne (by rw [e]))⟩
theorem Q7f {α:Type} [Inhabited α] (enc:α -> Value) (w:World) (blk off n:Nat) (d0 d:Array α) (os:Array Obj) (h0:Holds enc w blk off d0) (hs:d.size = d0.size) (hb:blk < w.heap.size):Holds enc (sortWorld enc w blk off n d os) blk off d:=by
 unfold sortWorld;exact holds_grow _ _ _ _ _ _ (by rw [size_putRow]; exact hb) (holds_putRow enc (Sort.ahead w n) blk off d0 d (holds_ahead _ _ _ _ _ _ h0) hs)
def Sorted (ll:List (List Int)):Prop:=ll.Pairwise fun a b=>¬ Q1m b a < 0
theorem X8t (w:World) (g cap base:Nat) (vs:List Value) (ll:List (List Int)) (hown:Q0f w base 182 idV (.slice (some ⟨g,0,none⟩) vs.length cap) vs) (hs:Sets w vs ll) (hle:ll.length <= 4096) :
    Calls Tryd.prog 108 #[.slice (some ⟨g,0,none⟩) ll.length cap,.func (.func 109) #[] #[]] w fun e w'=>e = .returned (.tuple #[]) /\ ∃ ll',ll'.Perm ll /\ Sorted ll' /\ IsIntss w' (.slice (some ⟨g,0,none⟩) ll.length cap) ll' /\ w.grownBy w' (some g):=by
 obtain ⟨cur,hcur,hgl,hcap,htake⟩:∃ cur,w.heap[g]? = some (.cells cur 182 (0,0)) /\ g < w.heap.size /\ vs.length <= cap /\ cur.toList.take vs.length = vs:=by
  obtain ⟨h1,h2⟩:=hown
  rcases h2 with ⟨h2,_⟩ | ⟨g',cap',cur,hv,hb,hg,hc,hm,hz,ht⟩
  . cases h2
  . injection hv with e1 e2 e3
    injection e1 with e1;injection e1 with e1;subst e1; subst e3;refine ⟨cur,hg,(Array.getElem?_eq_some_iff.1 hg).1,hc,?_⟩;have hid:vs.map idV = vs:=by show vs.map id = vs; exact List.map_id vs
    rw [hid,Nat.mul_one] at ht;exact ht
 have hlen:=hs.1;obtain ⟨K,hK⟩:∃ K,ll.length = K:=⟨_,rfl⟩;rw [hK] at hlen hle ⊢
 let z:Value:=.slice none 0 0
 let enc:Nat -> Value:=fun x=>vs.getD x z
 let cont:Nat -> List Int:=fun x=>ll.getD x []
 have hint:∀ x W,(∀ k,k < w.heap.size -> k ≠ g -> W.heap[k]? = w.heap[k]?) -> IsInts W (enc x) (cont x):=by
  intro x W hW
  by_cases hx:x < K
  . have h1:=(hs.2 x (by omega)).1
    have h2:=Q9v (W:=W) h1 (fun b hb hbl=>hW b hbl (fun e=>X3u h1 hcur (by rw [<- e]; exact hb)))
    have h3:=h2.ints (by have:=(hs.2 x (by omega)).2; omega)
    have e1:vs.getD x undef = enc x:=by simp [enc,z,show x < vs.length by omega]
    rw [e1] at h3;exact h3
  . have e1:enc x = .slice none 0 0:=by simp [enc,z,show ¬ x < vs.length by omega,List.getD_eq_getElem?_getD,List.getElem?_eq_none (show vs.length <= x by omega)]
    have e2:cont x = []:=by simp [cont,List.getD_eq_getElem?_getD,List.getElem?_eq_none (show ll.length <= x by omega)]
    rw [e1,e2];exact Rows.nil 1 _ W
 have hone:OneCell enc:=by
  intro x;obtain ⟨A,c,he,_⟩:=(hint x w (fun _ _ _=>rfl)).opened
  rw [he]; rfl
 have hH:Holds enc w g 0 (Array.range K):=by
  intro j hj;rw [Array.size_range] at hj;have e1:(Array.range K)[j]! = j:=by rw [getElem!_pos _ j (by simpa using hj)]; simp
  rw [e1];refine ⟨?_,by simp [World.frozen?,hcur]⟩
  have h1:=congrArg (fun l=>l[j]?) htake;rw [Nat.zero_add];simp only [List.getElem?_take,show j < vs.length by omega,if_true] at h1
  show (match w.heap[g]? with | some (.cells c _ _)=>_ | _=>_) = _
  rw [hcur];simp only [Option.isSome_none,Bool.false_eq_true,if_false];rw [<- Array.getElem?_toList,h1];simp [enc,show j < vs.length by omega]
 have hcmp:CmpLays1 Tryd.prog 109 #[] enc (fun x y=>Q1m (cont x) (cont y)) g 0 (Array.range K).size w:=by
  refine CmpReads.lays fun m os dk hdk x y=>?_;have h:=X2e (sortWorld enc w g 0 m dk os) (enc x) (enc y) (cont x) (cont y) (hint x _ (fun k hk hne=>Q1v _ _ _ _ _ _ _ hk hne)) (hint y _ (fun k hk hne=>Q1v _ _ _ _ _ _ _ hk hne));exact h.mono fun e w' ⟨he,hw⟩=>⟨he,0,hw.symm⟩
 have eg:∀ args w,(callFunc 109 args).run Tryd.prog w = .ok (.enter 109 args) w:=enters_of Tryd.func109 (by kernel_rfl) rfl
 have hcon:=Any.slices_SortFunc Tryd.sortSet enc hone (fun x y=>Q1m (cont x) (cont y)) (X5a cont) 109 #[] g 0 cap (Array.range K) w eg hcmp hH hgl (by rw [Array.size_range]; omega)
 rw [Array.size_range] at hcon;change Calls Tryd.prog 108 _ _ _ at hcon;refine hcon.mono fun e w' ⟨he,d',n,os,hp,hso,hw⟩=>⟨he,?_⟩;subst hw;obtain ⟨hp1,_,hp3⟩:=hp;rw [Array.size_range] at hp1;have hperm:d'.toList.Perm (List.range K):=by
  have e1:d'.extract 0 K = d':=by rw [<- hp1]; simp
  have e2:(Array.range K).extract 0 K = Array.range K:=by
   apply Array.toList_inj.1
   rw [Array.toList_extract,List.extract_eq_take_drop,List.drop_zero];exact List.take_of_length_le (by simp)
  rw [e1,e2] at hp3
  simpa using hp3
 have hll:(List.range K).map cont = ll:=by
  apply List.ext_getElem
  . simp [hK]
  . intro i h1 h2; simp [cont,h2]
 refine ⟨d'.toList.map cont,by rw [<- hll]; exact hperm.map cont,?_,?_,Q7z _ _ _ _ _ _ _⟩
 . unfold Sorted
   rw [List.pairwise_map,List.pairwise_iff_getElem];intro i j hi hj hij;have hi':i < d'.size:=by simpa using hi
   have hj':j < d'.size:=by simpa using hj
   have h:=hso i j (Nat.zero_le _) hij (by omega)
   rw [getElem!_pos d' i hi',getElem!_pos d' j hj'] at h
   simpa [ltOf] using h
 . have hho:=Q7f enc w g 0 n (Array.range K) d' os hH (by simp [hp1]) hgl
   have hl2:(d'.toList.map cont).length = K:=by simp [hp1]
   refine ⟨fun k=>enc (d'[k]!),⟨_,cap,by rw [hl2],by rw [hl2]; omega,by rw [hl2]; omega,fun j hj=>?_⟩,fun j hj=>?_⟩
   . rw [hl2,Nat.mul_one] at hj
     exact ⟨g,0,rfl,(hho j (by omega)).1⟩
   . rw [hl2] at hj
     have hj':j < d'.size:=by omega
     simp only [Nat.mul_one,Nat.add_zero];rw [getElem!_pos d' j hj'];have:=hint d'[j] (sortWorld enc w g 0 n d' os) (fun k hk hne=>Q1v _ _ _ _ _ _ _ hk hne)
     simpa using this
end Go.Proofs
