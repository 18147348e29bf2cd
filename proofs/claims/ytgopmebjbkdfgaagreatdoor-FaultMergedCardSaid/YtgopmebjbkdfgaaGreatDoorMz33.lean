/- Without a cause the probability is that given that it does not occur; a tree with other names is valid. Plain law for FaultMerged. Contract of the reference's Text, below 100. A slice of the call's own, or one that is full: an append of one element makes it one of the call's own behind a mark, and leaves all blocks ahead of the mark alone. The walk through Merge from region 26 on: the last gate, and the return. Contract of the law's own function room, of ratios that have room. The contracts and the facts that the walk through FaultLinear uses: probabilities of a valid tree as ratios. A tree with another chance of one event: plain law; what the walk through FaultLinear asks of the ratios. -/
import Derived.Test.YtgopmebjbkdfgaaGreatDoorMz32
import Derived.Test.YtgopmebjbkdfgaaGreatDoorMz23
import Derived.Laws.IdiomStrings
import Derived.Test.YtgopmebjbkdfgaaGreatDoorMz31
import Derived.ArgAppend
import Derived.Test.YtgopmebjbkdfgaaGreatDoorMz27
import Derived.Test.YtgopmebjbkdfgaaGreatDoorMz24
import Derived.Test.YtgopmebjbkdfgaaGreatDoorMz29
import Derived.Test.YtgopmebjbkdfgaaGreatDoorMz18
import Derived.Test.YtgopmebjbkdfgaaGreatDoorMz15
import Derived.Test.YtgopmebjbkdfgaaGreatDoorMz16
import Derived.Test.YtgopmebjbkdfgaaGreatDoorMz17
import Derived.Test.YtgopmebjbkdfgaaGreatDoorMz14
import Derived.Test.YtgopmebjbkdfgaaGreatDoorMz28
import Derived.Test.YtgopmebjbkdfgaaGreatDoorMz26
import Derived.Test.YtgopmebjbkdfgaaGreatDoorMz30
set_option maxRecDepth 1000000
set_option maxHeartbeats 64000000
set_option linter.unusedVariables false
set_option linter.unusedSimpArgs false
set_option linter.constructorNameAsVariable false
namespace Go.Proofs
open Go.Tw
def Q4h (t:Tree) (k:Nat):Tree:=⟨t.basics,t.causes.eraseIdx k,t.gates⟩
def Q5j (e i:Nat):Nat:=if i < e then i else i + 1
section
variable {t:Tree} {k:Nat}
theorem X4w {α:Type} [Inhabited α] {l:List α} {k j:Nat}:(l.eraseIdx k).getD j default = l.getD (Q5j k j) default:=by
 unfold Q5j;rw [List.getD_eq_getElem?_getD,List.getD_eq_getElem?_getD,List.getElem?_eraseIdx]
 split <;> rfl
theorem Y3r (hk:k < t.causes.length):(Q4h t k).causes.length + 1 = t.causes.length:=by
 unfold Q4h;rw [List.length_eraseIdx_of_lt hk];omega
theorem X9i (hk:k < t.causes.length):(Q4h t k).size + 1 = t.size:=by
 have:=Y3r hk;unfold Tree.size;have e:(Q4h t k).basics.length = t.basics.length:=rfl;omega
theorem X2h (j:Nat):Q5j (t.basics.length + k) (t.basics.length + j) = t.basics.length + Q5j k j:=by
 unfold Q5j
 split <;> split <;> omega
theorem Y1c {i:Nat} (h:i < t.basics.length):Q5j (t.basics.length + k) i = i:=by unfold Q5j; rw [if_pos (by omega)]
theorem X1k (i:Nat):(Q4h t k).nameAt i = t.nameAt (Q5j (t.basics.length + k) i) /\ (Q4h t k).Q0v i = t.Q0v (Q5j (t.basics.length + k) i):=by
 unfold Tree.nameAt Tree.Q0v cName Q0z;have e:(Q4h t k).basics = t.basics:=rfl;rw [e]
 by_cases h:i < t.basics.length
 . rw [Y1c h,if_pos h,if_pos h,if_pos h,if_pos h]
   exact ⟨rfl,rfl⟩
 . obtain ⟨j,rfl⟩:∃ j,i = t.basics.length + j:=⟨i - t.basics.length,by omega⟩
   rw [X2h,if_neg (by omega),if_neg (by omega),if_neg (by omega),if_neg (by omega),Nat.add_sub_cancel_left,Nat.add_sub_cancel_left]
   unfold Q4h;rw [X4w];exact ⟨rfl,rfl⟩
theorem J1e (h:t.err = 0) (hk:k < t.causes.length):(Q4h t k).err = 0:=by
 have hv:=Valid.of h;have hs:=X9i hk;rw [Y8x] at h ⊢;obtain ⟨h1,h2,h3,h4,h5,h6⟩:=h;refine ⟨h1,h2,by omega,h4,fun i hi=>?_,fun i hi=>h6 i hi⟩
 obtain ⟨r1,r2,r3⟩:=Q6r (h5 (Q5j (t.basics.length + k) i) (by unfold Q5j; split <;> omega))
 have r4:=X2y (h5 (Q5j (t.basics.length + k) i) (by unfold Q5j; split <;> omega))
 refine X6x (by rw [(X1k i).1]; exact r1) (by rw [(X1k i).2]; exact r2) (fun j hj=>?_) fun hge=>?_
 . rw [(X1k j).1,(X1k i).1]
   refine r4 _ ?_;unfold Q5j
   split <;> split <;> omega
 . have hge:t.basics.length <= i:=hge
   obtain ⟨j,rfl⟩:∃ j,i = t.basics.length + j:=⟨i - t.basics.length,by omega⟩
   rw [X2h] at r3;have r5:=r3 (Nat.le_add_right _ _);rw [Nat.add_sub_cancel_left] at r5;show Q1x (Q0e (Q4h t k).causes (t.basics.length + j - t.basics.length)) t.basics.length = 0;rw [Nat.add_sub_cancel_left];unfold Q0e Q4h;rw [X4w];exact r5
theorem Z2s (hk:k < t.causes.length) {ev:Nat -> Bool} (he:ev (t.basics.length + k) = false) {i:Nat} (hi:i < t.basics.length):(Q4h t k).Q5r (fun j=>ev (Q5j (t.basics.length + k) j)) i = t.Q5r ev i:=by
 have hl:=Y3r hk;unfold Tree.Q5r;dsimp only;rw [Y1c hi]
 congr 1
 have e:(Q4h t k).basics.length = t.basics.length:=rfl;rw [e,Bool.eq_iff_iff,List.any_eq_true,List.any_eq_true];have em:∀ j,Q0e (Q4h t k).causes j = Q0e t.causes (Q5j k j):=fun j=>by
  unfold Q0e Q4h;rw [X4w]
 constructor
 . rintro ⟨j,hj,hh⟩
   have hj:=List.mem_range.1 hj;rw [X2h,em] at hh;exact ⟨Q5j k j,List.mem_range.2 (by unfold Q5j; split <;> omega),hh⟩
 . rintro ⟨j,hj,hh⟩
   have hj:=List.mem_range.1 hj;have hne:j ≠ k:=fun e=>by subst e; rw [he] at hh; cases hh
   obtain ⟨j',hj',rfl⟩:∃ j',j' + 1 < t.causes.length /\ j = Q5j k j':=by
    by_cases h:j < k
    . exact ⟨j,by omega,by unfold Q5j; rw [if_pos h]⟩
    . exact ⟨j - 1,by omega,by unfold Q5j; rw [if_neg (by omega)]; omega⟩
   exact ⟨j',List.mem_range.2 (by omega),by rw [X2h,em]; exact hh⟩
theorem Y1u (hk:k < t.causes.length) {ev:Nat -> Bool} (he:ev (t.basics.length + k) = false):∀ n,(Q4h t k).Q1w (fun j=>ev (Q5j (t.basics.length + k) j)) n = t.Q1w ev n
 | 0=>by
   unfold Tree.Q1w Tree.Q7i;exact List.map_congr_left fun i hi=>Z2s hk he (List.mem_range.1 hi)
 | n + 1=>by
   rw [Tree.Q1w,Tree.Q1w,Y1u hk he n];rfl
theorem Z3o (hk:k < t.causes.length) {ev:Nat -> Bool} (he:ev (t.basics.length + k) = false):(Q4h t k).fails (fun j=>ev (Q5j (t.basics.length + k) j)) = t.fails ev:=by
 unfold Tree.fails Tree.states;have e:(Q4h t k).gates.length = t.gates.length:=rfl;rw [e,Y1u hk he];rfl
def Y1d (e h c l:Nat):Nat:=2 ^ e * (2 ^ 1 * h + c) + l
theorem Z6m {e h c l:Nat} (hc:c < 2) (hl:l < 2 ^ e):(Y1d e h c l).testBit e = decide (c = 1):=by
 unfold Y1d;rw [Nat.testBit_two_pow_mul_add _ hl,if_neg (by omega),Nat.sub_self,Nat.testBit_two_pow_mul_add _ (by simpa using hc),if_pos (by omega)]
 have:c = 0 ∨ c = 1:=by omega
 rcases this with rfl | rfl <;> rfl
theorem Y9x {e h c l:Nat} (hc:c < 2) (hl:l < 2 ^ e) (j:Nat):(Y1d e h c l).testBit (Q5j e j) = (2 ^ e * h + l).testBit j:=by
 unfold Y1d Q5j;rw [Nat.testBit_two_pow_mul_add _ hl,Nat.testBit_two_pow_mul_add _ hl]
 by_cases h1:j < e
 . rw [if_pos h1,if_pos h1,if_pos h1]
 . rw [if_neg h1,if_neg (by omega),if_neg h1,Nat.testBit_two_pow_mul_add _ (by simpa using hc),if_neg (by omega)]
   congr 1
   omega
theorem Y8f (hk:k < t.causes.length):t.weight (Q1m t.Q0b [((t.basics.length + k:Nat):Int)] 0) = 16 * (Q4h t k).weight (Q4h t k).Q0b:=by
 have hs:=X9i hk;have hl:=Y3r hk;obtain ⟨r,hr⟩:∃ r,t.causes.length = k + (1 + r):=⟨t.causes.length - 1 - k,by omega⟩
 have e1:t.size = t.basics.length + k + (1 + r):=by unfold Tree.size; omega
 have e2:(Q4h t k).size = t.basics.length + k + r:=by omega
 obtain ⟨e,he⟩:∃ e,t.basics.length + k = e:=⟨_,rfl⟩;rw [he] at e1 e2;rw [he];obtain ⟨c,hc⟩:∃ c,Q1m t.Q0b [(e:Int)] 0 = c:=⟨_,rfl⟩;have hcl:c.length = t.size:=by rw [<- hc,Q6v,Q2k]
 have hix:∀ j,j < t.size -> ix c j = if j = e then 0 else t.Q0v j:=fun j hj=>by
  rw [<- hc,Z7t (by rw [Q2k]; exact hj),Q8b hj]
 rw [hc];unfold Tree.weight;rw [Q8e,Q8e,e1,e2,Q5s,Q5s,Q5s,Int.mul_comm,<- X0h];refine Q2e _ fun h _=>?_;show (0 + Q4u _ _) + Q4u _ _ = _;rw [<- X0h];have z:Q4u (fun l=>if t.fails (evN (2 ^ e * (2 ^ 1 * h + 1) + l)) then partOf c (2 ^ e * (2 ^ 1 * h + 1) + l) else 0) (2 ^ e) = 0:=by
  refine (Q2e _ fun l hl=>?_).trans (X8n (2 ^ e));have hz:partOf c (Y1d e h 1 l) = 0:=by
   unfold partOf;rw [Q8o,hcl,e1,Q4s,Q4s];have:Q6m (fun i=>factor c (Y1d e h 1 l) (e + i)) 1 = 0:=by
    show 1 * factor c (Y1d e h 1 l) (e + 0) = 0;unfold factor;rw [Nat.add_zero,Z6m (by omega) hl,hix e (by omega),if_pos rfl]
    rfl
   rw [this,Int.zero_mul,Int.mul_zero]
  show (if t.fails (evN (Y1d e h 1 l)) then partOf c (Y1d e h 1 l) else 0) = 0
  rw [hz,ite_self]
 rw [z,Int.add_zero,Int.zero_add];refine Q2e _ fun l hl=>?_;show (if t.fails (evN (Y1d e h 0 l)) then partOf c (Y1d e h 0 l) else 0) = (if (Q4h t k).fails (evN (2 ^ e * h + l)) then partOf (Q4h t k).Q0b (2 ^ e * h + l) else 0) * 16
 have hf:(Q4h t k).fails (evN (2 ^ e * h + l)) = t.fails (evN (Y1d e h 0 l)):=by
  rw [<- Z3o hk (ev:=evN (Y1d e h 0 l)) (by unfold evN; rw [he,Z6m (by omega) hl]; rfl),he]
  refine X3c fun j _=>?_;exact (Y9x (by omega) hl j).symm
 have hp:partOf c (Y1d e h 0 l) = partOf (Q4h t k).Q0b (2 ^ e * h + l) * 16:=by
  unfold partOf;rw [Q8o,Q8o,hcl,Q2k,e1,e2,Q4s,Q4s,Q4s];have fk:∀ j,j < (Q4h t k).size -> factor c (Y1d e h 0 l) (Q5j e j) = factor (Q4h t k).Q0b (2 ^ e * h + l) j:=fun j hj=>by
   have n1:Q5j e j < t.size:=by unfold Q5j; split <;> omega
   have n2:¬ Q5j e j = e:=by unfold Q5j; split <;> omega
   have n3:=hix _ n1;rw [if_neg n2] at n3;unfold factor;rw [Y9x (by omega) hl,Q8b hj,(X1k j).2,he,n3]
  have q0:Q6m (fun i=>factor c (Y1d e h 0 l) (e + i)) 1 = 16:=by
   show 1 * factor c (Y1d e h 0 l) (e + 0) = 16;unfold factor;rw [Nat.add_zero,Z6m (by omega) hl,hix e (by omega),if_pos rfl]
   rfl
  have q1:Q6m (factor c (Y1d e h 0 l)) e = Q6m (factor (Q4h t k).Q0b (2 ^ e * h + l)) e:=Q5q _ fun i hi=>by
   rw [<- fk i (by omega)]
   congr 1
   unfold Q5j;rw [if_pos hi]
  have q2:Q6m (fun i=>factor c (Y1d e h 0 l) (e + (1 + i))) r = Q6m (fun i=>factor (Q4h t k).Q0b (2 ^ e * h + l) (e + i)) r:=Q5q _ fun i hi=>by
   rw [<- fk (e + i) (by omega)]
   congr 1
   unfold Q5j;rw [if_neg (by omega)]
   omega
  rw [q0,q1,q2]
  grind
 rw [hf,hp];cases t.fails (evN (Y1d e h 0 l)) <;> simp
theorem Z1y (hk:k < t.causes.length):lowest (t.weight (Q1m t.Q0b [((t.basics.length + k:Nat):Int)] 0)) (16 ^ t.size) = lowest ((Q4h t k).weight (Q4h t k).Q0b) (16 ^ (Q4h t k).size):=by
 rw [Y8f hk,<- X9i hk,Int.pow_succ,Int.mul_comm 16,X1g (by decide)]
end
end Go.Proofs
namespace Go.Proofs
open Go.RowKit Go.Tw Go.Flow
theorem Q6k {n:Nat} (h:n < 10):Q3h n = ⟨#[UInt8.ofNat (48 + n)]⟩:=by
 unfold Q3h;rw [Int.toNat_natCast];unfold Lib.decDigits;rw [dif_pos h]
theorem Y4s {n:Nat} (h:10 <= n) (h2:n < 100):Q3h n = Q3h (n / 10:Nat) ++ Q3h (n % 10:Nat):=by
 rw [Q6k (show n / 10 < 10 by omega),Q6k (show n % 10 < 10 by omega)]
 unfold Q3h;rw [Int.toNat_natCast];unfold Lib.decDigits;rw [dif_neg (by omega)]
 unfold Lib.decDigits;rw [dif_pos (by omega)]
 apply ByteArray.ext
 rw [ByteArray.data_append];simp
theorem Y3k (w:World) {n:Nat} (h:n < 10):(convert 122 9 (.slice (some ⟨w.heap.size,0,none⟩) 1 1)).run Tryz.prog (w.alloc (.cells #[.int .u8 (48 + (n:Int))] 5)) = .ok (.string (Q3h n)) (w.alloc (.cells #[.int .u8 (48 + (n:Int))] 5)):=by
 have:=run_convert_bytes_back (P:=Tryz.prog) (w.alloc (.cells #[.int .u8 (48 + (n:Int))] 5)) 122 9 5 ⟨w.heap.size,0,none⟩ 1 [UInt8.ofNat (48 + n)] (by kernel_rfl) (by kernel_rfl) (by kernel_rfl) (fun j hj=>by
  have e:j = 0:=by simpa using hj
  subst e;rw [addr_add,World.cell?_alloc_at _ _ _ _ rfl];have e2:(UInt8.ofNat (48 + n)).toNat = 48 + n:=by rw [UInt8.toNat_ofNat']; omega
  simp only [List.getElem_cons_zero,e2];rw [Int.natCast_add];rfl)
 rw [Q6k h];exact this
theorem Y2y (w:World) (n:Nat) (h:n < 10):Calls Tryz.prog 17 #[.int .i64 (n:Int)] w fun e w'=>e = .returned (.string (Q3h n)) /\ Ext w w':=by
 have h1:¬ (9:Int) < (n:Int):=by omega
 have h2:¬ (n:Int) < (-9:Int):=by omega
 have h3:¬ (n:Int) < (0:Int):=by omega
 have hw:IntKind.i64.wrap (48 + (n:Int)) = 48 + n:=Q6e _ (by omega) (by omega)
 have hc:=Y3k w h;go_enter Tryz.func17,Tryz.ntmps17;go_wp2;go_ret;exact ⟨rfl,Ext.box _ _⟩
theorem Y1f {n:Nat} (h:n < 100):(Q3h n).size <= 2:=by
 by_cases h1:n < 10
 . rw [Q6k h1]; show 1 <= 2; omega
 . rw [Y4s (by omega) h,ByteArray.size_append,Q6k (show n / 10 < 10 by omega),Q6k (show n % 10 < 10 by omega)]
   show 1 + 1 <= 2;omega
theorem Z1h (w:World) (x:Int) (h0:0 <= x) (h:x < 100):Calls Tryz.prog 17 #[.int .i64 x] w fun e w'=>e = .returned (.string (Q3h x)) /\ Ext w w':=by
 obtain ⟨n,rfl⟩:∃ n:Nat,x = n:=⟨x.toNat,by omega⟩
 by_cases h1:n < 10
 . exact Y2y w n h1
 . have hg:(9:Int) < (n:Int):=by omega
   have hq:(n:Int).tdiv 10 = ((n / 10:Nat):Int):=(Int.ofNat_tdiv n 10).symm;have hr:(n:Int).tmod 10 = ((n % 10:Nat):Int):=(Int.ofNat_tmod n 10).symm;obtain ⟨a,ha⟩:∃ a,n / 10 = a:=⟨_,rfl⟩;obtain ⟨b,hb⟩:∃ b,n % 10 = b:=⟨_,rfl⟩;have hS:=Lib.hid (Y4s (show 10 <= n by omega) (by omega))
   have hal:a < 10:=by omega
   have hbl:b < 10:=by omega
   have HA:=Lib.hid hal;have HB:=Lib.hid hbl;have hs:¬ 9223372036854775807 < (Q3h a).size + (Q3h b).size:=by
    have:=Y1f (n:=a) (by omega)
    have:=Y1f (n:=b) (by omega)
    omega
   rw [ha,hb] at hS;rw [ha] at hq;rw [hb] at hr;clear ha hb h0 h h1;go_enter Tryz.func17,Tryz.ntmps17;go_wp2_with fail;refine (Y2y _ a HA.out).mono ?_;rintro e w1 ⟨rfl,hx⟩;go_wp2_with fail;refine (Y2y _ b HB.out).mono ?_;rintro e w2 ⟨rfl,hx2⟩;go_wp2;go_ret;exact ⟨by rw [hS.out]; rfl,hx.trans hx2⟩
end Go.Proofs
namespace Go.Proofs
open Go.RowKit Go.Tw Go.Flow
theorem Z1t {α:Type} {w w':World} {base k:Nat} {e:TypeId} {enc:α -> List Value} {v:Value} {l:List α} (h:Q1o w base e k enc v l) (hg:w.grownBy w' v.ownBlock):Keep e w w':=fun b S cs hS hb=>by
 have hne:some b ≠ v.ownBlock:=by
  intro e1
  rcases h.2 with ⟨rfl,_⟩ | ⟨g,cap,cur,rfl,_,hgl,_⟩
  . cases e1
  . injection e1 with e1
    subst e1;unfold Blk at hb;rw [hb] at hgl;injection hgl with hgl;injection hgl with _ h3 _;exact hS h3
 unfold Blk at hb ⊢;rw [hg.block b (Array.getElem?_eq_some_iff.1 hb).1 hne];exact hb
def Y3u {α:Type} (w:World) (M:Nat) (e:TypeId) (k:Nat) (enc:α -> List Value) (v:Value) (l:List α):Prop :=
 Q1o w M e k enc v l ∨ (Q1o w 0 e k enc v l /\ ∃ b,v = .slice b l.length l.length)
theorem Y3u.own {α:Type} {w:World} {M k:Nat} {e:TypeId} {enc:α -> List Value} {v:Value} {l:List α} (h:Y3u w M e k enc v l):Q1o w 0 e k enc v l:=by
 rcases h with h | h
 . exact Q8p h (Nat.zero_le _)
 . exact h.1
theorem Y3u.shape {α:Type} {w:World} {M k:Nat} {e:TypeId} {enc:α -> List Value} {v:Value} {l:List α} (h:Y3u w M e k enc v l):∃ b c,v = .slice b l.length c /\ l.length <= c:=h.own.shape
theorem Y3u.keep {α:Type} {T:TypeId} {w w':World} {M k:Nat} {e:TypeId} {enc:α -> List Value} {v:Value} {l:List α} (h:Y3u w M e k enc v l) (hT:e ≠ T) (hk:Keep T w w'):Y3u w' M e k enc v l:=by
 rcases h with h | h
 . exact .inl (Q1k h hT hk)
 . exact .inr ⟨Q1k h.1 hT hk,h.2⟩
theorem Y3u.ext {α:Type} {w w':World} {M k:Nat} {e:TypeId} {enc:α -> List Value} {v:Value} {l:List α} (h:Y3u w M e k enc v l) (hx:Ext w w'):Y3u w' M e k enc v l:=by
 rcases h with h | h
 . exact .inl (h.below hx)
 . exact .inr ⟨h.1.below hx,h.2⟩
theorem Q9y {α:Type} {P:Program} {K:Value -> World -> Prop} {o:Oper} {a:Act} {w:World} (s x:Operand) (t:TypeId) (ho:o.op = .call { callee:=.builtin .append,args:=#[s,x],argTypes:=#[t,t] })
    (M:Nat) (e:TypeId) (i:TypeInfo) (z:Value) (k bytes:Nat) (ht:P.underlying t = some (.slice e)) (hi:P.info? e = some i) (hz:i.zero = some z) (hsize:i.size = k) (hby:i.bytes = bytes) (hzs:z.cells.size = k) (hk0:0 < k)
    (enc:α -> List Value) (hk:∀ x,(enc x).length = k) (v:Value) (xs:List α) (y:α) (hs:a.eval s = v) (hown:Y3u w M e k enc v xs) (ad:Addr) (hx:a.eval x = .slice (some ad) 1 1)
    (hA:∀ j u,(enc y)[j]? = some u -> w.cell? (ad.add j) = some u) (h1:∀ u ∈ enc y,u.oneCell' = true)
    (h63:xs.length <= 99999) (hb:bytes <= 1000) (hM:M <= w.heap.size)
    (h:∀ v' w',Q1o w' M e k enc v' (xs ++ [y]) -> Keep e w w' -> Below M w w' -> K v' w'):gives P K ((execOp a.eval o).run P w):=by
 have hfl:[y].flatMap enc = enc y:=by simp
 rcases hown with hown | ⟨hown,b,rfl⟩
 . refine Q9p s x t ho M e i z k bytes ht hi hz hsize hby hzs hk0 enc hk v xs [y] hs hown (some ad) 1 hx (fun _=>⟨ad,rfl,by rw [hfl]; exact hA⟩) (by rw [hfl]; exact h1) (by show xs.length + 1 <= 100000; omega) hb hM ?_
   intro v' w' h2 hg;exact h v' w' h2 (Z1t hown hg) (Below.grown (Below.refl _ _) hg hM fun j hj=>(hown.lt j hj).1)
 . have hbytes:(xs.length + 1) * bytes <= 140737488355328:=by
    have:(xs.length + 1) * bytes <= 100000 * 1000:=Nat.mul_le_mul (by omega) hb
    omega
   have fin:∀ v' w',(Builtin.append_ #[t,t] o.type #[.slice b xs.length xs.length,.slice (some ad) 1 1]).run P w = .ok v' w' -> w'.ownsRow w.heap.size e k v' (xs.length + 1) (xs.flatMap enc ++ enc y) -> w.grownBy w' none -> gives P K ((execOp a.eval o).run P w):=by
    intro v' w' hr h2 h3;unfold execOp;simp only [ho,resolve,invoke,builtin,Sem.run_bind,Sem.run_pure,Result.andThen_ok,List.map_toArray,List.map_cons,List.map_nil,hs,hx,hr];refine h v' w' (Q8p (Q1o.snoc h2) hM) (fun b' S cs _ hb'=>?_) (Below.grown (Below.refl _ _) h3 hM fun j hj=>by cases hj)
    unfold Blk at hb' ⊢;rw [h3.block b' (Array.getElem?_eq_some_iff.1 hb').1 (fun e=>by cases e)]
    exact hb'
   rcases hown.2 with ⟨h0,hn⟩ | ⟨g,cap,cur,hv,hbg,hgl,hc,hm,hcs,htk⟩
   . have e0:xs = []:=List.eq_nil_of_length_eq_zero hn
     subst e0;have e1:b = none:=by injection h0
     subst e1;obtain ⟨v',w',hr,h2,h3,_⟩:=run_append_own (P:=P) w w.heap.size t o.type e i z k bytes ht hi hz hsize hby hzs hk0 (.slice none 0 0) 0 [] (World.ownsRow_nil w _ e k) ad 1 1 (enc y) (by rw [hk,Nat.one_mul]) hA h1 (by unfold maxLen; omega) (by simpa using hbytes) (Nat.le_refl _)
     exact fin v' w' hr (by simpa using h2) h3
   . cases hv
     have hlen:(xs.flatMap enc).length = xs.length * k:=Q6n hk xs;obtain ⟨v',w',hr,h2,h3⟩:=run_append_arg_grows (P:=P) (w:=w) t o.type e i z k bytes ht hi hz hsize hby hzs hk0 ⟨g,0,none⟩ xs.length xs.length (xs.flatMap enc) hlen (fun j u hj=>by
      rw [addr_add,Nat.zero_add,Blk.cell hgl];have h5:=congrArg (fun l=>l[j]?) htk;have hjl:j < xs.length * k:=by rw [<- hlen]; exact (List.getElem?_eq_some_iff.1 hj).1
      rw [List.getElem?_take,if_pos hjl] at h5;rw [<- hj,<- h5,Array.getElem?_toList]) ad 1 1 (enc y) (by rw [hk,Nat.one_mul]) hA (by omega) (by unfold maxLen; omega) hbytes
     exact fin v' w' hr h2 h3
end Go.Proofs
namespace Go.Proofs
open Go.RowKit Go.Tw Go.Flow
attribute [local go_sem ↓] Q2s Q4d Q2n Q3r
theorem Y9j {w:World} {base:Nat} {T:TypeId} {v:Value} {l:List Basic} (h:Q1o w base T 2 Q9x v l) (hl:l.length <= 17592186043904) (hsh:∀ i,i < l.length -> Short (bName l i)):Q2l w v l:=by
 refine h.rows hl Q7w (fun x hx=>?_) (fun c c' x hc h=>?_)
 . obtain ⟨k,hk,rfl⟩:=List.getElem_of_mem hx
   have:=hsh k hk;unfold bName at this;rw [getD_at hk] at this;exact ⟨rfl,rfl,this⟩
 . obtain ⟨h1,h2,h3⟩:=h
   exact ⟨by rw [<- hc 0 (by omega)]; exact h1,by rw [<- hc 1 (by omega)]; exact h2,h3⟩
structure X6j (t:Tree):Prop where
 b:∀ i,i < t.basics.length -> Short (bName t.basics i)
 c:∀ i,i < t.causes.length -> Short (cName t.causes i) /\ (Q0e t.causes i).length <= 17592186043904
 g:∀ i,i < t.gates.length -> Short (Q1u t.gates i) /\ (Q0j t.gates i).length <= 17592186043904
 f:Few t
theorem Y9s {w:World} {base:Nat} {t:Tree} {vb vc vg:Value} {LC LG:List (ByteArray × Int × Value)} (hs:X6j t) (hb:Q1o w base 103 2 Q9x vb t.basics) (hc:Q1o w base 106 3 enc3 vc LC) (htc:Q8r w LC (t.causes.map Y4m))
    (hg:Q1o w base 114 3 enc3 vg LG) (htg:Q8r w LG (t.gates.map X6f)):Q7q 33 w (.agg #[vb,vc,vg]) t:=fun w' hk =>
 ⟨_,_,_,rfl,Y9j (Q1k hb (by decide) hk) (by have:=hs.f.b; omega) hs.b,(htc.keep (by decide) hk).causes (Q1k hc (by decide) hk) hs.f.c hs.c,(htg.keep (by decide) hk).gates (Q1k hg (by decide) hk) hs.f.g hs.g⟩
theorem Tryz.Y6d (w:World):(sizeOf 31).run Tryz.prog w = .ok 1 w:=by kernel_rfl
theorem J1d (w:World) (x y:Int):Q0t (w.alloc (.cells #[.int .i64 x,.int .i64 y] 3)) 0 3 (.int .i64) (.slice (some ⟨w.heap.size,0,none⟩) 2 2) [x,y] :=
 ⟨rfl,.inr ⟨w.heap.size,2,_,rfl,Nat.zero_le _,heap_alloc_new w _,Nat.le_refl _,by unfold maxLen; omega,rfl,rfl⟩⟩
theorem J4j (W0 WB:World) (a b:Tree) (kind:ByteArray) (M Bb R O:Nat) (xa xb:Value) (Gb Ab Ac Ag:Option Addr) (cgb cb cc cg nc:Nat) (LC LG:List (ByteArray × Int × Value))
    (hst:X6j (Q0k a b kind)) (hsa:a.basics.length + b.basics.length <= 1000) (hsg:a.gates.length + b.gates.length <= 900) (hnb:0 < a.basics.length) (hlg:LG.length = a.gates.length + b.gates.length)
    (k4:Blk WB Bb 33 #[xa,xb,.slice Gb b.gates.length cgb]) (kR:Blk WB R 33 #[.slice none 0 0,.slice none 0 0,.slice none 0 0]) (kO:Blk WB O 33 #[.slice Ab (a.basics.length + b.basics.length) cb,.slice Ac nc cc,.slice Ag LG.length cg])
    (hvb:Q1o WB 0 103 2 Q9x (.slice Ab (a.basics.length + b.basics.length) cb) (a.basics ++ b.basics)) (hvc:Q1o WB 0 106 3 enc3 (.slice Ac nc cc) LC) (htc:Q8r WB LC ((a.causes ++ b.causes.map (Q3m a.basics.length b.basics.length)).map Y4m))
    (hvg:Y3u WB M 114 3 enc3 (.slice Ag LG.length cg) LG) (htg:Q8r WB LG ((a.gates.map (Q2d a.basics.length b.basics.length) ++ b.gates.map (Q3l a.basics.length b.basics.length a.gates.length)).map X6f))
    (hRO:R ≠ O) (hMw:M <= WB.heap.size) (h0R:W0.heap.size <= R) (h0O:W0.heap.size <= O) (h0b:W0.heap.size <= M) (hx0:Ext W0 WB) (ua ub uc ud ue uf ug uh ui uj uk ul um un uo up uq ur us ut uu uv uw ux uy uz uA uB uC uD uE uF uG uH uI uJ uK uL uM uN uO uP uQ uR uS uT uU uV uW uX uY uZ u2 u4 u6 Ua Ub Uc Ud Ue Uf Ug Uh Ui Uj Uk Ul Um Un Uo Up Uq Ur Us Ut Uu Uv Uw Ux Uy Uz UA UB UC UD UE UF UG UH UI UJ UK UL UM UN UO UP UQ UR US UT UU UV UW UX UY UZ U0 U1 U2 U3 U4 U5 U6 U7 U8 U9 ya yb yc yd ye yf yg yh yi yj yk yl ym yn yo yp yq yr ys yt yu yv yw yx yy yz yA yB yC yD yE yF yG yH yI yJ yK yL yM yN yO yP yQ yR yS yT yU yV yW yX yY yZ y0 y1 y2 y3 y4 y5 y6 y7 y8 y9 Ya Yb Yc Yd Ye Yf Yg Yh Yi Yj Yk Yl Ym Yn Yo Yp:Value) :
    (codeFrom Tryz.f9 26).wp Tryz.prog (bodyPost Tryz.prog Tryz.f9 (fun e w'=>∃ u,e = .returned (.tuple #[u,.int .i64 0]) /\ Q7q 33 w' u (Q0k a b kind) /\ Ext W0 w')) ⟨#[ua,ub,.string kind,uc,.pointer (some ⟨Bb,0,none⟩),ud,.pointer (some ⟨R,0,none⟩),ue,uf,ug,uh,ui,uj,.pointer (some ⟨O,0,none⟩),uk,ul,um,un,uo,up,uq,ur,us,ut,uu,uv,uw,ux,uy,uz,uA,uB,uC,uD,uE,uF,uG,uH,uI,uJ,uK,uL,uM,uN,uO,uP,uQ,uR,uS,uT,uU,uV,uW,uX,uY,uZ,u2,u4,u6,Ua,Ub,Uc,Ud,Ue,Uf,Ug,Uh,Ui,Uj,Uk,Ul,Um,Un,Uo,Up,Uq,Ur,Us,Ut,Uu,Uv,Uw,Ux,Uy,Uz,UA,UB,UC,UD,UE,UF,UG,UH,UI,UJ,UK,UL,UM,UN,UO,UP,UQ,UR,US,UT,UU,UV,UW,UX,UY,UZ,U0,U1,U2,U3,U4,U5,U6,U7,U8,U9,ya,yb,yc,yd,ye,yf,yg,yh,yi,yj,yk,yl,ym,yn,yo,yp,yq,yr,ys,yt,yu,yv,yw,yx,yy,yz,yA,yB,yC,yD,yE,yF,yG,yH,yI,yJ,yK,yL,yM,yN,yO,yP,yQ,yR,yS,yT,yU,yV,yW,yX,yY,yZ,y0,y1,y2,y3,y4,y5,y6,y7,y8,y9,Ya,Yb,Yc,Yd,Ye,Yf,Yg,Yh,Yi,Yj,Yk,Yl,Ym,Yn,Yo,Yp],[]⟩ WB:=by
 conv=>arg 2; whnf
 obtain ⟨nB,hnB⟩:∃ n,a.basics.length + b.basics.length = n:=⟨_,rfl⟩;have HMT:Hid (Q4z a b = (nB:Int) + LG.length - 1):=Lib.hid (by unfold Q4z; omega)
 have HNB:=Lib.hid hnB;rw [hnB] at hsa kO hvb;have hnB0:0 < nB:=by omega
 have c0:=kO.cell 0;have c1:=kO.cell 1;have c2:=kO.cell 2;have d2:=k4.cell 2;simp only [Go.Tw.gA,Go.Tw.gB,Go.Tw.gC] at c0 c1 c2 d2;obtain ⟨ig,hi,hz0,hz1,hz2⟩:=info_parts Tryz.Z9g;have hlg2:LG.length <= 900:=by omega
 have hgb:b.gates.length <= 900:=by omega
 obtain ⟨q,hq⟩:∃ x:Int,(nB:Int) + LG.length - 1 = x:=⟨_,rfl⟩;obtain ⟨p,hp⟩:∃ x:Int,q - b.gates.length = x:=⟨_,rfl⟩;have hq1:0 <= q:=by omega
 have hq2:q <= 2000:=by omega
 rw [hq] at HMT;have HP:=Lib.hid hp;have HLG:=Lib.hid hlg;have HST:=Lib.hid hst;have HVB:=Lib.hid hvb;have HVC:=Lib.hid hvc;have HTC:=Lib.hid htc;have HVG:=Lib.hid hvg;have HTG:=Lib.hid htg;have KR:=Lib.hid kR;have KO:=Lib.hid kO;have HX0:=Lib.hid hx0;clear hlg hst hvb hvc htc hvg htg kR k4 hnB kO hx0;go_upto_region 27 with fail;clear hq;have hxi:=Ext.box WB (.cells #[.int .i64 p,.int .i64 q] 3);have hxg:=Ext.box (WB.alloc (.cells #[.int .i64 p,.int .i64 q] 3)) (.cells #[.string kind,.int .i64 0,.slice (some ⟨WB.heap.size,0,none⟩) 2 2] 114);have HOI:=Lib.hid (((J1d WB p q).below hxg));have HX2:=Lib.hid (hxi.trans hxg);have hsz1:(WB.alloc (.cells #[.int .i64 p,.int .i64 q] 3)).heap.size = WB.heap.size + 1:=by simp
 have HGB:=Lib.hid (Blk.made (WB.alloc (.cells #[.int .i64 p,.int .i64 q] 3)) 114 #[.string kind,.int .i64 0,.slice (some ⟨WB.heap.size,0,none⟩) 2 2]);rw [hsz1] at HGB;clear hxi hxg hsz1;go_upto_region 28 with (at_builtin; refine Q7g (o:=⟨some 196,_,_,_,_,_⟩) rfl ?_; refine Q9y (.tmp 185) (.tmp 195) 31 rfl M 114 ig (.agg #[.string emp,.int .i64 0,.slice none 0 0]) 3 48 Tryz.underlying31 hi hz0 hz1 hz2 rfl (by decide) enc3 Q0s _ LG (kind,0,.slice (some ⟨WB.heap.size,0,none⟩) 2 2) rfl (HVG.out.ext HX2.out) ⟨WB.heap.size + 1,0,none⟩ rfl (Q7u HGB.out) (by intro u hu; simp only [enc3,List.mem_cons,List.not_mem_nil,or_false] at hu; rcases hu with rfl | rfl | rfl <;> rfl) (by show LG.length <= 99999; omega) (by decide) (Nat.le_trans hMw HX2.out.size) ?_; intro v9 w9 hown9 hk9 hbl9; refine halted ?_)
 have HX9:Hid (Ext W0 w9):=Lib.hid (Below.trans (HX0.out.trans HX2.out) (Below.mono hbl9 h0b));have HVB9:=Lib.hid (Q1k (HVB.out.below HX2.out) (by decide) hk9)
 have HVC9:=Lib.hid (Q1k (HVC.out.below HX2.out) (by decide) hk9)
 have HTC9:=Lib.hid ((HTC.out.ext HX2.out).keep (by decide) hk9)
 have HTG9:=Lib.hid (((HTG.out.ext HX2.out).keep (by decide) hk9).snoc kind 0 (Q3x HOI.out (by decide) hk9))
 have KR9:=Lib.hid (hk9 _ _ _ (by decide) (KR.out.ext HX2.out))
 have KO9:=Lib.hid (hk9 _ _ _ (by decide) (KO.out.ext HX2.out))
 have HVG9:=Lib.hid hown9;obtain ⟨bG,cG,hsh,_⟩:=hown9.shape;rw [hsh] at HVG9 ⊢;clear hown9 hbl9 hk9 hsh c0 c1 c2 d2 HVB HVC HVG HTC HTG KR KO HOI;have hlg9:(LG ++ [(kind,(0:Int),Value.slice (some ⟨WB.heap.size,0,none⟩) 2 2)]).length = LG.length + 1:=by simp
 rw [hlg9] at HVG9 ⊢;clear hlg9;unfold Q4m;go_upto_region 28 with (refine Q1v rfl _ _ 31 rfl Tryz.Y6d (u:=.slice bG (LG.length + 1) cG) (g:=O) (k:=2) rfl rfl rfl rfl KO9.out (by show 2 < 3; omega) ?_; intro w10 hb10 hl10 ho10; refine halted ?_)
 have hk10:=Keep.store KO9.out ho10;have HX10:Hid (Ext W0 w10):=Lib.hid (Below.trans HX9.out (hl10 _ h0O));have HB10:Hid (Blk w10 O 33 #[.slice Ab nB cb,.slice Ac nc cc,.slice bG (LG.length + 1) cG]):=Lib.hid (hb10);have KR10:=Lib.hid (KR9.out.only hRO ho10);have HK10:=Lib.hid hk10;clear hb10 hl10 ho10 hk10;unfold Q4m;go_wp2_with (first | (refine Q0o rfl _ 33 rfl Tryz.Q2y Tryz.Q0x rfl HB10.out rfl ?_) | (refine Q0g rfl _ _ 33 rfl Tryz.Q0x rfl rfl KR10.out rfl rfl ?_ ?_; (focus (intro u hu; simp only [List.mem_cons,List.not_mem_nil,or_false] at hu; rcases hu with rfl | rfl | rfl <;> rfl)); intro w11 hb11 hl11 ho11))
 have hk:=HK10.out.trans (Keep.store KR10.out ho11);refine bodyPost_ret (Q0r Tryz.results9 rfl hb11 Tryz.Q2y Tryz.Q0x rfl) rfl ?_;refine ⟨_,rfl,?_,Below.trans HX10.out (hl11 _ h0R)⟩;have e:(Q0k a b kind).gates.map X6f = ((a.gates.map (Q2d a.basics.length b.basics.length) ++ b.gates.map (Q3l a.basics.length b.basics.length a.gates.length)).map X6f) ++ [(kind,0,[p,q])]:=by
  unfold Q0k;rw [List.map_append,HMT.out,HP.out];rfl
 exact Y9s HST.out (Q1k HVB9.out (by decide) hk) (Q1k HVC9.out (by decide) hk) (HTC9.out.keep (by decide) hk) (Q1k (Q8p HVG9.out (Nat.zero_le _)) (by decide) hk) (by rw [e]; exact HTG9.out.keep (by decide) hk)
end Go.Proofs
namespace Go.Proofs
open Go.RowKit Go.Tw Go.Flow
def J7g (_:World) (c:Nat -> Value) (x:Ratio):Prop:=c 0 = .int .i64 x.num /\ c 1 = .int .i64 x.den
def X8x:World -> Value -> List Ratio -> Prop:=Go.Tw.Rows 2 J7g
instance:Inhabited Ratio:=⟨⟨0,0⟩⟩
theorem X8x.ext {w w':World} {v:Value} {l:List Ratio} (h:X8x w v l) (hx:Ext w w'):X8x w' v l:=Go.Tw.Rows.ext (fun _ _ _ _ _ h=>h) h hx
theorem X8x.opened {w:World} {v:Value} {l:List Ratio} (h:X8x w v l) :
    ∃ A cap,v = .slice A l.length cap /\ l.length <= 17592186043904 /\ l.length <= cap /\ ∀ k,k < l.length -> ∃ b off,A = some ⟨b,off,none⟩ /\
     w.cell? ⟨b,off + k * 2,none⟩ = some (.int .i64 (l.getD k default).num) /\ w.cell? ⟨b,off + k * 2 + 1,none⟩ = some (.int .i64 (l.getD k default).den):=by
 obtain ⟨c,⟨A,cap,hv,hn,hcap,hc⟩,h2⟩:=h;refine ⟨A,cap,hv,hn,hcap,fun k hk=>?_⟩;obtain ⟨b,off,hA,h0⟩:=hc (k * 2) (by omega)
 obtain ⟨b',off',hA',h1⟩:=hc (k * 2 + 1) (by omega)
 rw [hA] at hA'; cases hA';obtain ⟨e0,e1⟩:=h2 k hk;simp only [Nat.add_zero] at e0 e1;refine ⟨b,off,hA,?_,?_⟩
 . rw [h0,e0,Q3k _ hk]
 . rw [Nat.add_assoc,h1,e1,Q3k _ hk]
def Q6c (x:Ratio):Prop:=0 <= x.num /\ x.num <= 268435456 /\ 1 <= x.den /\ x.den <= 268435456
theorem J2y (w:World) (v:Value) (l:List Ratio) (hv:X8x w v l) (hr:∀ x ∈ l,Q6c x) :
    Calls Tryz.prog 21 #[v] w fun e w'=>e = .returned (.bool true) /\ Ext w w':=by
 obtain ⟨A,cap,rfl,hl,hcap,hc⟩:=hv.opened;have HC:=Lib.hid hc;have HR:=Lib.hid hr;clear hv hc hr;go_enter Tryz.func21,Tryz.ntmps21;go_wp2
 go_loopw [7] (fun i wr=>∃ k:Nat,k <= l.length /\ i = .int .i64 k /\ Ext w wr) (fun i _=>l.length - (intOf i).toNat)
 case atStart=>exact ⟨0,Nat.zero_le _,rfl,Ext.refl _⟩
 case round =>
  obtain ⟨k,hk,rfl,hx⟩:=hrel
  by_cases hlt:k < l.length
  . obtain ⟨b,off,rfl,e0,e1⟩:=HC.out k hlt
    replace e0:=hx.cell e0;replace e1:=hx.cell e1;have hroom:=HR.out (l.getD k default) (by rw [Q3k _ hlt]; exact List.getElem_mem hlt)
    obtain ⟨⟨n,d⟩,hnd⟩:∃ r,l.getD k default = r:=⟨_,rfl⟩;rw [hnd] at e0 e1 hroom;obtain ⟨h1,h2,h3,h4⟩:=hroom;dsimp only at h1 h2 h3 h4 e0 e1;have g1:¬ n < 0:=by omega
    have g2:¬ d < 1:=by omega
    have g3:¬ 268435456 < n:=by omega
    have g4:¬ 268435456 < d:=by omega
    have hkI:(k:Int) < l.length:=by omega
    have xb:=Ext.box wr (.cells #[.int .i64 n,.int .i64 d] 52);have HX2:=Lib.hid (hx.trans xb);clear hnd h1 h2 h3 h4 xb;go_wp2;go_roundw
    case rel=>exact ⟨k + 1,by omega,by go_num,HX2.out⟩
    case measure=>simp [intOf]; omega
  . go_wp2
    go_ret;exact ⟨rfl,hx⟩
end Go.Proofs
namespace Go.Proofs
open Go.RowKit Go.Tw Go.Flow
def Q9j (t:Tree) (c:List Int):Ratio:=lowest (t.weight c) (16 ^ t.size)
def J1p (t:Tree) (k:Nat):Ratio:=Q9j t (Q1m t.Q0b [(k:Int)] 0)
theorem Z0p (n:Nat):((Q8q 16 n:Nat):Int) = 16 ^ n:=by unfold Q8q; rw [Int.natCast_pow]; rfl
theorem Z3n {c:List Int} (x:Int):Q1m c [] x = c:=by
 apply List.ext_getElem (by rw [Q6v])
 intro i h1 h2;simp only [Q1m,List.getElem_map,List.getElem_range];rw [if_neg (by simp [has]),Q6o h2]
theorem Z9e {t:Tree} (he:t.err = 0) {k:Nat} (hk:k < t.size):Q0l t [(k:Int)] = 0:=by
 unfold Q0l;rw [if_pos he];unfold Q1l Z1p;simp [X4r];omega
theorem J2v {t:Tree} (he:t.err = 0):Q0l t [] = 0:=by
 unfold Q0l;rw [if_pos he];rfl
theorem X4m (w:World) (u:Value) (t:Tree) (a b:Int) (he:t.err = 0) (hC:Q9j t t.Q0b = ⟨a,b⟩) (hu:IsTree w u t) :
    Calls Tryz.prog 19 #[u] w fun e w'=>e = .returned (.tuple #[.agg #[.int .i64 a,.int .i64 b],.int .i64 0]) /\ Ext w w':=by
 have h:=X0i w u t hu;have e:Q9i t = ⟨a,b⟩:=by
  unfold Q9i;rw [if_pos he,X6l,Z0p];exact hC
 rw [e,he] at h;exact h
theorem Z4p (w:World) (u v:Value) (t:Tree) (k:Nat) (a b:Int) (he:t.err = 0) (hk:k < t.size) (hC:J1p t k = ⟨a,b⟩) (hu:IsTree w u t) (hv:Q0f w v [(k:Int)]) :
    Calls Tryz.prog 24 #[u,.slice none 0 0,v] w fun e w'=>e = .returned (.tuple #[.agg #[.int .i64 a,.int .i64 b],.int .i64 0]) /\ Ext w w':=by
 have h:=X4u w u (.slice none 0 0) v t [] [(k:Int)] hu (Go.Tw.Rows.nil _ _ _) hv;have e0:Q6j t [] [(k:Int)] = 0:=by
  unfold Q6j;rw [Z9e he hk,J2v he];rfl
 have e:X4i t [] [(k:Int)] = ⟨a,b⟩:=by
  unfold X4i;rw [if_pos e0,Z0p];unfold X1a;rw [X6l,Z3n];exact hC
 rw [e,e0] at h;exact h
structure J7j (t:Tree) (at_:Int) (r:Ratio) (e:Int):Prop where
 way:(e = 7 /\ ∀ j,j < t.size -> J1p t j = Q9j t t.Q0b) ∨
  (e = 0 /\ (∃ k:Nat,at_ = k /\ k < t.size /\ J1p t k = r) /\ Q6c r /\ r.num * (Q9j t t.Q0b).den < (Q9j t t.Q0b).num * r.den /\
   (∀ j,j < t.size -> r.num * (J1p t j).den <= (J1p t j).num * r.den) /\ ∀ j:Nat,(j:Int) < at_ -> j < t.size -> J1p t j ≠ r)
end Go.Proofs
namespace Go.Proofs
open Go.RowKit Go.Tw Go.Flow
section
variable {t:Tree} {k:Nat} {c:Int}
end
structure J7s (o pn pd an ad bn bd jn jd un ud:Int):Prop where
 ro:0 <= o /\ o <= 16
 rp:Q6c ⟨pn,pd⟩
 ra:Q6c ⟨an,ad⟩
 rb:Q6c ⟨bn,bd⟩
 rj:Q6c ⟨jn,jd⟩
 ru:Q6c ⟨un,ud⟩
 one:pn <= pd
 bound:pn * ud <= un * pd
 mix:lowest (o * an * bd + (16 - o) * bn * ad) (16 * ad * bd) = ⟨pn,pd⟩
 diff:lowest (an * bd - bn * ad) (ad * bd) = ⟨jn,jd⟩
 pos:0 <= an * bd - bn * ad
structure J7n (pn pd jn jd rn rd:Int):Prop where
 rr:Q6c ⟨rn,rd⟩
 pos:0 <= rn * pd - pn * rd
 step:lowest (rn * pd - pn * rd) (rd * pd) = lowest jn (16 * jd)
theorem J6o {a b A B:Int} (a0:0 <= a) (a1:a <= A) (b0:0 <= b) (b1:b <= B):0 <= a * b /\ a * b <= A * B:=⟨Int.mul_nonneg a0 b0,Int.mul_le_mul a1 b1 b0 (Int.le_trans a0 a1)⟩
theorem J7e {a b:Int} (a0:1 <= a) (b0:1 <= b):1 <= a * b:=by
 have:=Int.mul_pos (show 0 < a by omega) (show 0 < b by omega)
 omega
structure J7t (o an ad bn bd:Int):Prop where
 b1:0 <= o * an * bd + (16 - o) * bn * ad /\ o * an * bd + (16 - o) * bn * ad <= 4611686018427387904
 b2:1 <= 16 * ad * bd /\ 16 * ad * bd <= 4611686018427387904
 b3:0 <= an * bd - bn * ad /\ an * bd - bn * ad <= 4611686018427387904
 b4:1 <= ad * bd /\ ad * bd <= 4611686018427387904
 w1:IntKind.i64.wrap (o * an) = o * an
 w2:IntKind.i64.wrap (o * an * bd) = o * an * bd
 w3:IntKind.i64.wrap (16 - o) = 16 - o
 w4:IntKind.i64.wrap ((16 - o) * bn) = (16 - o) * bn
 w5:IntKind.i64.wrap ((16 - o) * bn * ad) = (16 - o) * bn * ad
 w6:IntKind.i64.wrap (o * an * bd + (16 - o) * bn * ad) = o * an * bd + (16 - o) * bn * ad
 w7:IntKind.i64.wrap (16 * ad) = 16 * ad
 w8:IntKind.i64.wrap (16 * ad * bd) = 16 * ad * bd
 w9:IntKind.i64.wrap (an * bd) = an * bd
 w10:IntKind.i64.wrap (bn * ad) = bn * ad
 w11:IntKind.i64.wrap (an * bd - bn * ad) = an * bd - bn * ad
 w12:IntKind.i64.wrap (ad * bd) = ad * bd
structure J7q (pn pd jd rn rd:Int):Prop where
 b1:0 <= rn * pd - pn * rd /\ rn * pd - pn * rd <= 4611686018427387904
 b2:1 <= rd * pd /\ rd * pd <= 4611686018427387904
 b3:1 <= 16 * jd /\ 16 * jd <= 4611686018427387904
 w1:IntKind.i64.wrap (rn * pd) = rn * pd
 w2:IntKind.i64.wrap (pn * rd) = pn * rd
 w3:IntKind.i64.wrap (rn * pd - pn * rd) = rn * pd - pn * rd
 w4:IntKind.i64.wrap (rd * pd) = rd * pd
 w5:IntKind.i64.wrap (16 * jd) = 16 * jd
end Go.Proofs
