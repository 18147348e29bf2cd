/- Laws: append within the capacity, clear; contract: slices.Delete of causes. A copied tree read as a tree; contract: Without. -/
import Derived.Test.YtgopmebjbkdfgaaGreatDoorTx22
import Derived.Test.YtgopmebjbkdfgaaGreatDoorTx19
set_option maxRecDepth 1000000
set_option maxHeartbeats 64000000
set_option linter.unusedVariables false
set_option linter.unusedSimpArgs false
set_option linter.constructorNameAsVariable false
namespace Go.Tw
open Go.RowKit Go.Flow
theorem X9k {P:Program} {w:World} (t ty e:TypeId) (ht:P.underlying t = some (.slice e)) {sz:Nat} (hs:∀ w,(sizeOf e).run P w = .ok sz w) {g:Nat} {T:TypeId} {cur:Array Value} (hb:Blk w g T cur) (k m cap mc:Nat) (hkm:k + m <= cap) (sp:Option Addr) (new:List Value) (hlen:new.length = m * sz)
    (hsrc:∀ j v,new[j]? = some v -> ∃ b off,sp = some ⟨b,off,none⟩ /\ w.cell? ⟨b,off + j,none⟩ = some v) (hfit:k * sz + new.length <= cur.size) (h1:∀ v ∈ new,v.oneCell' = true) :
    ∃ w',(Builtin.append_ #[t,t] ty #[.slice (some ⟨g,0,none⟩) k cap,.slice sp m mc]).run P w = .ok (.slice (some ⟨g,0,none⟩) (k + m) cap) w' /\ Blk w' g T (Q1t cur (k * sz) new) /\ (∀ n,n <= g -> Below n w w') /\ ∀ k,k ≠ g -> w'.heap[k]? = w.heap[k]?:=by
 obtain ⟨w',hr,hb',hl,hoo⟩:=Q5c (P:=P) (off:=k * sz) new 0 w cur hb h1 (by simpa using hfit)
 refine ⟨w',?_,by simpa using hb',hl,hoo⟩
 have hfc:(Builtin.firstCells sz m (.slice sp m mc)).run P w = .ok new.toArray w:=by
  cases sp with
  | none =>
    have:new = []:=by
     cases new with
     | nil=>rfl
     | cons v vs=>obtain ⟨b,off,he,_⟩:=hsrc 0 v rfl; cases he
    subst this;simp [Builtin.firstCells]
  | some ad =>
    have hl2:=run_loadCells_list (P:=P) w ad new (fun j v hv=>by
     obtain ⟨b,off,he,hc⟩:=hsrc j v hv;cases he;rw [addr_add]; exact hc)
    rw [hlen] at hl2
    simpa [Builtin.firstCells] using hl2
 have hadd:(⟨g,0,none⟩:Addr).add (k * sz) = ⟨g,k * sz,none⟩:=by rw [addr_add,Nat.zero_add]
 simp [Builtin.append_,run_underlying ht,Builtin.lenOf,hs,hfc,hkm,hadd,hr]
theorem X9d {P:Program} {w:World} (t ty e:TypeId) (ht:P.underlying t = some (.slice e)) {g off:Nat} {T:TypeId} {cur:Array Value} (hb:Blk w g T cur) (cap:Nat) (z:Value) (hz:∀ w,(zeroValue e).run P w = .ok z w) (h1:∀ v ∈ (Builtin.zeroCells z.cells 1).toList,v.oneCell' = true) (hfit:off + (Builtin.zeroCells z.cells 1).size <= cur.size) :
    ∃ w',(Builtin.clear_ #[t] ty #[.slice (some ⟨g,off,none⟩) 1 cap]).run P w = .ok (.tuple #[]) w' /\ Blk w' g T (Q1t cur off (Builtin.zeroCells z.cells 1).toList) /\ (∀ n,n <= g -> Below n w w') /\ ∀ k,k ≠ g -> w'.heap[k]? = w.heap[k]?:=by
 obtain ⟨w',hr,hb',hl,hoo⟩:=Q5c (P:=P) (off:=off) (Builtin.zeroCells z.cells 1).toList 0 w cur hb h1 (by simpa using hfit)
 refine ⟨w',?_,by simpa using hb',hl,hoo⟩
 simp [Builtin.clear_,run_underlying ht,hz,hr]
theorem X6f {P:Program} {K:Value -> World -> Prop} {o:Oper} {a:Act} {w:World} (s x:Operand) (t e:TypeId) (ho:o.op = .call { callee:=.builtin .append,args:=#[s,x],argTypes:=#[t,t] }) (ht:P.underlying t = some (.slice e)) {sz:Nat} (hs:∀ w,(sizeOf e).run P w = .ok sz w) {g:Nat} {T:TypeId} {cur:Array Value} (hb:Blk w g T cur) (k m cap mc:Nat) (hkm:k + m <= cap) (sp:Option Addr)
    (h1:a.eval s = .slice (some ⟨g,0,none⟩) k cap) (h2:a.eval x = .slice sp m mc) (new:List Value) (hlen:new.length = m * sz)
    (hsrc:∀ j v,new[j]? = some v -> ∃ b off,sp = some ⟨b,off,none⟩ /\ w.cell? ⟨b,off + j,none⟩ = some v) (hfit:k * sz + new.length <= cur.size) (ho1:∀ v ∈ new,v.oneCell' = true)
    (h:∀ w',Blk w' g T (Q1t cur (k * sz) new) -> (∀ n,n <= g -> Below n w w') -> (∀ k,k ≠ g -> w'.heap[k]? = w.heap[k]?) -> K (.slice (some ⟨g,0,none⟩) (k + m) cap) w'):gives P K ((execOp a.eval o).run P w):=by
 obtain ⟨w',hr,hb',hl,hoo⟩:=X9k (P:=P) t o.type e ht hs hb k m cap mc hkm sp new hlen hsrc hfit ho1;unfold execOp;simp only [ho,resolve,invoke,builtin,Sem.run_bind,Sem.run_pure,Result.andThen_ok,List.map_toArray,List.map_cons,List.map_nil,h1,h2,hr];exact h w' hb' hl hoo
theorem X3q {P:Program} {w:World} {ops:Array Oper} {rest:List Oper} {o:Oper} {a:Act} {Q:Exit -> Act -> World -> Prop} (hgd:o.guard = none) (x:Operand) (t e:TypeId) (ho:o.op = .call { callee:=.builtin .clear,args:=#[x],argTypes:=#[t] }) (ht:P.underlying t = some (.slice e))
    {g off cap:Nat} (hx:a.eval x = .slice (some ⟨g,off,none⟩) 1 cap) {T:TypeId} {cur:Array Value} (hb:Blk w g T cur) (z:Value) (hz:∀ w,(zeroValue e).run P w = .ok z w) (h1:∀ v ∈ (Builtin.zeroCells z.cells 1).toList,v.oneCell' = true) (hfit:off + (Builtin.zeroCells z.cells 1).size <= cur.size)
    (hK:∀ w',Blk w' g T (Q1t cur off (Builtin.zeroCells z.cells 1).toList) -> (∀ n,n <= g -> Below n w w') -> (∀ k,k ≠ g -> w'.heap[k]? = w.heap[k]?) -> wpList P ops Q rest (a.put o.dst (.tuple #[])) w'):wpList P ops Q (o :: rest) a w:=by
 refine wpList_plain hgd fun K' hK'=>?_;unfold Oper.wp;obtain ⟨w',hr,hb',hl,hoo⟩:=X9d (P:=P) t o.type e ht hb cap z hz h1 hfit;have hr2:(execOp a.eval o).run P w = .ok (.value (.tuple #[])) w':=by
  unfold execOp;simp only [ho,resolve,invoke,builtin,Sem.run_bind,Sem.run_pure,Result.andThen_ok,List.map_toArray,List.map_cons,List.map_nil,hx,hr]
 rw [hr2];exact hK' _ _ (hK w' hb' hl hoo)
end Go.Tw
namespace Go.Proofs
open Go.RowKit Go.Tw Go.Flow
theorem X0o:(Builtin.zeroCells (Value.agg #[.string emp,.int .i64 0,.slice none 0 0]).cells 1).toList = enc3 zero3:=by
 apply List.ext_getElem?
 intro j
 by_cases hj:j < 3
 . have:j = 0 ∨ j = 1 ∨ j = 2:=by omega
   rcases this with rfl | rfl | rfl <;> simp [Builtin.zeroCells,Value.cells,enc3,zero3]
 . rw [List.getElem?_eq_none (by simp [Builtin.zeroCells,Value.cells]; omega),List.getElem?_eq_none (by simp [enc3]; omega)]
theorem Y6z:(Builtin.zeroCells (Value.agg #[.string emp,.int .i64 0,.slice none 0 0]).cells 1).size = 3:=by
 rw [<- Array.length_toList,X0o]; rfl
theorem Tryz.Z9v (w:World):(zeroValue 106).run Tryz.prog w = .ok (.agg #[.string emp,.int .i64 0,.slice none 0 0]) w:=by kernel_rfl
def Z9o {α:Type} (f:Nat -> α) (z:α) (n k:Nat) (i:Nat):α:=if i < k then f i else if i < n - 1 then f (i + 1) else z
theorem Y8g (f:Nat -> ByteArray × Int × Value) (n k:Nat) (hk:k < n) :
    Q1t (Q1t (Q1c enc3 n f) (k * 3) ((List.range (n - (k + 1))).flatMap fun i=>enc3 (f (k + 1 + i)))) ((n - 1) * 3) (enc3 zero3) = Q1c enc3 n (Z9o f zero3 n k):=by
 have hlen:((List.range (n - (k + 1))).flatMap fun i=>enc3 (f (k + 1 + i))).length = (n - (k + 1)) * 3:=by
  have:=Q1d Q0u (n - (k + 1)) (fun i=>f (k + 1 + i));unfold Q1c at this
  simpa using this
 have h1:Q1t (Q1c enc3 n f) (k * 3) ((List.range (n - (k + 1))).flatMap fun i=>enc3 (f (k + 1 + i))) = Q1c enc3 n (fun i=>if i < k then f i else if i < n - 1 then f (i + 1) else f i):=by
  apply Array.ext_getElem?
  intro j;have hsz:=Q1d Q0u n f;rw [Q7h _ _ _ _ (by rw [hlen,hsz]; omega),hlen]
  by_cases hj:j < n * 3
  . have e:j = j / 3 * 3 + j % 3:=by omega
    by_cases hin:k * 3 <= j /\ j < k * 3 + (n - (k + 1)) * 3
    . rw [if_pos hin]
      have e2:j - k * 3 = (j / 3 - k) * 3 + j % 3:=by omega
      have hg:=Q2h Q0u (fun i=>f (k + 1 + i)) (n:=n - (k + 1)) (i:=j / 3 - k) (j:=j % 3) (by omega) (by omega)
      unfold Q1c at hg;rw [List.getElem?_toArray,<- e2] at hg;rw [hg]
      conv=>rhs; rw [e]
      rw [Q2h Q0u _ (by omega) (by omega),if_neg (by omega),if_pos (by omega),show k + 1 + (j / 3 - k) = j / 3 + 1 by omega]
    . rw [if_neg hin]
      conv=>lhs; rw [e]
      conv=>rhs; rw [e]
      rw [Q2h Q0u _ (by omega) (by omega),Q2h Q0u _ (by omega) (by omega)]
      by_cases hq:j / 3 < k
      . rw [if_pos hq]
      . rw [if_neg hq,if_neg (by omega)]
  . rw [if_neg (by omega),Array.getElem?_eq_none (by omega),Array.getElem?_eq_none (by rw [Q1d Q0u]; omega)]
 rw [h1,X6c Q0u _ (show n - 1 < n by omega)]
 apply Q3r
 intro i hi;unfold Z9o
 by_cases h:i = n - 1
 . rw [if_pos h,if_neg (by omega),if_neg (by omega)]
 . rw [if_neg h]
   by_cases h2:i < k
   . rw [if_pos h2,if_pos h2]
   . rw [if_neg h2,if_neg h2,if_pos (by omega),if_pos (by omega)]
theorem Y8d (w:World) (g n k:Nat) (f:Nat -> ByteArray × Int × Value) (hb:Blk w g 106 (Q1c enc3 n f)) (hk:k < n) (hn:n <= 1000) (hf:∀ i,i < n -> (f i).2.2.oneCell' = true) :
    Calls Tryz.prog 74 #[.slice (some ⟨g,0,none⟩) n n,.int .i64 k,.int .i64 ((k:Int) + 1)] w fun e w'=>e = .returned (.slice (some ⟨g,0,none⟩) (n - 1) n) /\ Blk w' g 106 (Q1c enc3 n (Z9o f zero3 n k)) /\ (∀ n,n <= g -> Below n w w') /\ ∀ b,b < w.heap.size -> b ≠ g -> w'.heap[b]? = w.heap[b]?:=by
 have hne:((k:Int) == (k:Int) + 1) = false:=by rw [beq_eq_false_iff_ne]; omega
 have k1:(k:Int) + 1 <= (n:Int):=by omega
 have k2:(k:Int) <= (k:Int) + 1:=by omega
 have k3:(0:Int) <= (k:Int) + 1:=by omega
 have k4:¬ n < k:=by omega
 have k5:¬ n < k + 1:=by omega
 have HB:=Lib.hid hb;have HF:=Lib.hid hf;clear hb hf;go_enter Tryz.func74,Tryz.ntmps74;go_wp2;have hdr:=(Ext.refl w).drew;have HS:=Lib.hid (Y8g f n k hk);have hlen:((List.range (n - (k + 1))).flatMap fun i=>enc3 (f (k + 1 + i))).length = (n - (k + 1)) * 3:=by
  have:=Q1d Q0u (n - (k + 1)) (fun i=>f (k + 1 + i));unfold Q1c at this
  simpa using this
 have hsz:=Q1d Q0u n f;have HLEN:=Lib.hid hlen;have HSZ:=Lib.hid hsz;clear hlen hsz;refine Flow.Q3x [.p,.p,.p,.p,.p,.p,.last,.last] [0,1,2,3,4,5,6,7] [[],[],[0,1],[],[],[3,4],[0,1,2,3,4,5],[0,1,2,3,4,5,6]] [6,7]
  [.c 0 (.slice (some ⟨g,0,none⟩) n n),.c 1 (.int .i64 k),.c 2 (.slice (some ⟨g,0,none⟩) k n),.c 3 (.slice (some ⟨g,0,none⟩) n n),.c 4 (.int .i64 ((k:Int) + 1)),.c 5 (.slice (if n = k + 1 then some ⟨g,0,none⟩ else some ⟨g,(k + 1) * 3,none⟩) (n - (k + 1)) (n - (k + 1))),.none,.none]
  [fun v w1 w2=>v 6 = .slice (some ⟨g,0,none⟩) (n - 1) n /\ Blk w2 g 106 (Q1t (Q1c enc3 n f) (k * 3) ((List.range (n - (k + 1))).flatMap fun i=>enc3 (f (k + 1 + i)))) /\ (∀ n,n <= g -> Below n w1 w2) /\ ∀ k,k ≠ g -> w2.heap[k]? = w1.heap[k]?,fun v w1 w2=>v 7 = .slice (some ⟨g,0,none⟩) (n - 1) n /\ Blk w2 g 106 (Q1t (Q1c enc3 n f) (k * 3) ((List.range (n - (k + 1))).flatMap fun i=>enc3 (f (k + 1 + i)))) /\ (∀ n,n <= g -> Below n w1 w2) /\ ∀ k,k ≠ g -> w2.heap[k]? = w1.heap[k]?] (by kernel_rfl) rfl (by kernel_rfl) ⟨?g0,?g1,?g2,?g3,?g4,?g5,?g6,?g7,trivial⟩ ?post
 case g0 | g1 | g3 | g4=>
  intro v w1 hx;intro bb hbb;subst hbb;refine ⟨_,fun w=>?_,rfl⟩;go_simp
 case g2 | g5=>
  intro v w1 hx;(repeat intro (zq:v _ = _));intro bb hbb;subst hbb;refine ⟨_,fun w=>?_,rfl⟩;go_simp
 case g6=>
  intro v w1 hx;(repeat intro (zq:v _ = _));intro wl hT;obtain rfl:wl = w1:=hT;intro bb hbb;intro K hK;have o1:bb.eval (.tmp 22) = .slice (some ⟨g,0,none⟩) k n:=by rw [hbb]; dsimp only; (try simp (discharger:=decide) only [eval_put_ne]); rw [Q0a (by simp only [size_put]; exact (by decide:22 < 33))]; assumption
  have o2:bb.eval (.tmp 25) = .slice (if n = k + 1 then some ⟨g,0,none⟩ else some ⟨g,(k + 1) * 3,none⟩) (n - (k + 1)) (n - (k + 1)):=by rw [hbb]; dsimp only; (try simp (discharger:=decide) only [eval_put_ne]); rw [Q0a (by simp only [size_put]; exact (by decide:25 < 33))]; assumption
  refine X6f (.tmp 22) (.tmp 25) 30 106 rfl Tryz.underlying30 Tryz.X4q (HB.out.ext (hdr.trans hx)) k (n - (k + 1)) n (n - (k + 1)) (by omega) _ o1 o2 ((List.range (n - (k + 1))).flatMap fun i=>enc3 (f (k + 1 + i))) HLEN.out ?_ (by rw [HLEN.out,HSZ.out]; omega) ?_ (fun w' hb hl ho=>hK _ _ ⟨by show Value.slice _ (k + (n - (k + 1))) n = _; rw [show k + (n - (k + 1)) = n - 1 by omega],hb,hl,ho⟩)
  . intro j v hv
    have hj:=(List.getElem?_eq_some_iff.1 hv).1;rw [HLEN.out] at hj;refine ⟨g,(k + 1) * 3,by rw [if_neg (by omega)],?_⟩
    rw [(HB.out.ext (hdr.trans hx)).cell,show (k + 1) * 3 + j = (k + 1 + j / 3) * 3 + j % 3 by omega,Q2h Q0u _ (by omega) (by omega)]
    have hg:=Q2h Q0u (fun i=>f (k + 1 + i)) (n:=n - (k + 1)) (i:=j / 3) (j:=j % 3) (by omega) (by omega)
    unfold Q1c at hg;rw [List.getElem?_toArray,show j / 3 * 3 + j % 3 = j by omega,hv] at hg
    exact hg.symm
  . intro u hu
    obtain ⟨i,hi,hu⟩:=List.mem_flatMap.1 hu;have hi:=List.mem_range.1 hi;simp only [enc3,List.mem_cons,List.not_mem_nil,or_false] at hu
    rcases hu with rfl | rfl | rfl
    . rfl
    . rfl
    . exact HF.out _ (by omega)
 case g7=>
  intro v w1 hx;(repeat intro (zq:v _ = _));intro wl hT;replace hT:(fun v w1 w2=>v 6 = .slice (some ⟨g,0,none⟩) (n - 1) n /\ Blk w2 g 106 (Q1t (Q1c enc3 n f) (k * 3) ((List.range (n - (k + 1))).flatMap fun i=>enc3 (f (k + 1 + i)))) /\ (∀ n,n <= g -> Below n w1 w2) /\ ∀ k,k ≠ g -> w2.heap[k]? = w1.heap[k]?) v w1 wl:=hT;intro bb hbb;subst hbb;obtain ⟨hT1,hT2⟩:=hT;intro K hK;go_simp;exact hK _ _ ⟨rfl,hT2⟩
 case post =>
  intro v w1 hx;(iterate 6 intro (zq:v _ = _));intro w2 hE;replace hE:(fun v w1 w2=>v 7 = .slice (some ⟨g,0,none⟩) (n - 1) n /\ Blk w2 g 106 (Q1t (Q1c enc3 n f) (k * 3) ((List.range (n - (k + 1))).flatMap fun i=>enc3 (f (k + 1 + i)))) /\ (∀ n,n <= g -> Below n w1 w2) /\ ∀ k,k ≠ g -> w2.heap[k]? = w1.heap[k]?) v w1 w2:=hE;simp only [Flow.acts,Act.put];go_simp;obtain ⟨e7,hb7,hl7,ho7⟩:=hE;have hn1:((n - 1:Nat):Int) = (n:Int) - 1:=by omega
  have hn2:(0:Int) <= ((n - 1:Nat):Int):=by omega
  have hn3:((n - 1:Nat):Int) <= (n:Int):=by omega
  have hn4:¬ n = n - 1:=by omega
  have hn5:n - (n - 1) = 1:=by omega
  have HX7:=Lib.hid (hdr.trans hx);have HB7:=Lib.hid hb7;have HL7:=Lib.hid hl7;have HO7:=Lib.hid ho7;clear hb7 hl7 ho7 hx hdr hn1;go_wp2_with (refine X3q rfl _ 30 106 rfl Tryz.underlying30 rfl HB7.out _ Tryz.Z9v (by rw [X0o]; intro u hu; simp only [enc3,zero3,List.mem_cons,List.not_mem_nil,or_false] at hu; rcases hu with rfl | rfl | rfl <;> rfl) (by rw [Y6z,X9z,HSZ.out]; omega) ?_; rw [X0o]; intro w9 hb9 hl9 ho9; have HB9:=Lib.hid hb9; have HL9:=Lib.hid hl9; have HO9:=Lib.hid ho9; clear hb9 hl9 ho9)
  . have hnk:=‹n = k + 1›
    subst hnk;go_ret;refine ⟨rfl,?_,fun m hm=>?_,fun b hb hne=>?_⟩
    . rw [<- HS.out]; exact HB9.out
    . exact (HX7.out.below (Nat.le_of_lt (Nat.lt_of_le_of_lt hm HB.out.lt))).trans ((HL7.out m hm).trans (HL9.out m hm))
    . rw [HO9.out b hne,HO7.out b hne]
      exact HX7.out.block b hb
  . go_ret
    refine ⟨rfl,?_,fun m hm=>?_,fun b hb hne=>?_⟩
    . rw [<- HS.out]; exact HB9.out
    . exact (HX7.out.below (Nat.le_of_lt (Nat.lt_of_le_of_lt hm HB.out.lt))).trans ((HL7.out m hm).trans (HL9.out m hm))
    . rw [HO9.out b hne,HO7.out b hne]
      exact HX7.out.block b hb
end Go.Proofs
namespace Go.Tw
open Go.RowKit Go.Flow
theorem Q0o {P:Program} {w:World} {ops:Array Oper} {rest:List Oper} {o:Oper} {a:Act} {Q:Exit -> Act -> World -> Prop} (hg:o.guard = none) (p x:Operand) (T:TypeId) (hop:o.op = .store T p x)
    (hT:∀ w,(sizeOf T).run P w = .ok 1 w) {g k:Nat} (hp:a.eval p = .pointer (some ⟨g,k,none⟩)) {u:Value} (hx:a.eval x = u) (hu:u.cells = #[u]) (h1:u.oneCell' = true) {BT:TypeId} {cs:Array Value} (hb:Blk w g BT cs) (hk:k < cs.size)
    (hK:∀ w',Blk w' g BT (cs.setIfInBounds k u) -> (∀ n,n <= g -> Below n w w') -> (∀ k,k ≠ g -> w'.heap[k]? = w.heap[k]?) -> wpList P ops Q rest (a.put o.dst undef) w'):wpList P ops Q (o :: rest) a w:=by
 refine wpList_plain hg fun K' hK'=>?_;unfold Oper.wp;have h0:=hb.cell k;rw [Array.getElem?_eq_getElem hk] at h0;have hs:(storeVar T ⟨g,k,none⟩ u).run P w = .ok () (w.setCell ⟨g,k,none⟩ u):=by
  unfold storeVar;simp only [Sem.run_bind,hT,Result.andThen_ok,hu];rw [if_neg (by simp)]
  simp only [storeCells,Sem.run_bind,Sem.run_pure];have ea:(⟨g,k,none⟩:Addr).add 0 = ⟨g,k,none⟩:=by rw [addr_add,Nat.add_zero]
  rw [ea,run_store P w _ u _ h1];simp only [h0,hb.frozen k,Bool.false_eq_true,if_false,Result.andThen_ok]
 have hr2:(execOp a.eval o).run P w = .ok .skip (w.setCell ⟨g,k,none⟩ u):=by
  unfold execOp;simp only [hop,hp,hx,Instr.storeAt,Instr.sureAddr,Sem.run_bind,Sem.run_pure,Result.andThen_ok,hs]
 rw [hr2];exact hK' _ _ (hK _ (hb.set k u) (fun n hn=>(Below.refl n w).setCell (p:=⟨g,k,none⟩) hn u) (fun k' hk'=>Below.heap_setCell _ _ _ _ hk'))
end Go.Tw
namespace Go.Proofs
open Go.RowKit Go.Tw Go.Flow
theorem Tryz.Y6q (w:World):(sizeOf 30).run Tryz.prog w = .ok 1 w:=by kernel_rfl
theorem Z8m.ext {w w':World} {base:Nat} {t:Tree} {gb gc gg:Nat} {mc mg:Nat -> Value} (h:Z8m w base t gb gc gg mc mg) (hx:Ext w w'):Z8m w' base t gb gc gg mc mg :=
 ⟨h.bas.ext hx,h.cau.ext hx,h.gat.ext hx,fun i hi=>(h.mem i hi).below hx,fun i hi=>(h.inp i hi).below hx,h.b,h.c,h.g⟩
theorem Z3o {w:World} {v:Value} {l:List Int} (h:Q0s w 0 3 (.int .i64) v l):v.oneCell' = true:=by
 obtain ⟨A,c,rfl,_⟩:=h.cells;rfl
theorem Q2k {w w':World} {a g:Nat} {T:TypeId} {cs:Array Value} (h:Blk w a T cs) (hne:a ≠ g) (ho:∀ b,b < w.heap.size -> b ≠ g -> w'.heap[b]? = w.heap[b]?):Blk w' a T cs:=by
 have hl:=h.lt;unfold Blk at *; rw [ho a hl hne]; exact h
theorem Q5p {w w':World} {v:Value} {l:List Int} {g:Nat} {T:TypeId} {cs:Array Value} (h:Q0s w 0 3 (.int .i64) v l) (hb:Blk w g T cs) (hT:T ≠ 3) (ho:∀ b,b < w.heap.size -> b ≠ g -> w'.heap[b]? = w.heap[b]?):Q0s w' 0 3 (.int .i64) v l :=
 X9y h fun b hv hl=>ho b hl fun e=>X5v hT h hb (by rw [hv,e])
theorem Z3r (l:List Q9i) (k i:Nat) (_hi:i < (l.eraseIdx k).length):(l.eraseIdx k).getD i default = l.getD (if i < k then i else i + 1) default:=by
 rw [List.getD_eq_getElem?_getD,List.getD_eq_getElem?_getD,List.getElem?_eraseIdx]
 split <;> rfl
theorem X5u {α β:Type} {enc:α -> List Value} {k:Nat} (hk:∀ x,(enc x).length = k) {R:World -> (Nat -> Value) -> β -> Prop} {w:World} {g n cap:Nat} {T:TypeId} {f:Nat -> α} {l:List β} (hb:Blk w g T (Q1c enc n f)) (hl:l.length <= n) (hl2:l.length <= 17592186043904) (hcap:l.length <= cap)
    (hR:∀ c j (h:j < l.length),(∀ i,i < k -> (enc (f j))[i]? = some (c i)) -> R w c l[j]):Go.Tw.Rows k R w (.slice (some ⟨g,0,none⟩) l.length cap) l:=by
 have hs:=Q1d hk n f;refine ⟨fun j=>((Q1c enc n f)[j]?).getD undef,⟨_,_,rfl,hl2,hcap,fun j hj=>⟨g,0,rfl,?_⟩⟩,fun j hj=>hR _ _ hj fun i hi=>?_⟩
 . rw [hb.cell,Nat.zero_add]
   have:j < (Q1c enc n f).size:=by rw [hs]; exact Nat.lt_of_lt_of_le hj (Nat.mul_le_mul_right k hl)
   simp only [Array.getElem?_eq_getElem this,Option.getD_some]
 . show _ = some (((Q1c enc n f)[j * k + i]?).getD undef)
   rw [Q2h hk _ (Nat.lt_of_lt_of_le hj hl) hi];have:i < (enc (f j)).length:=by rw [hk]; exact hi
   simp only [List.getElem?_eq_getElem this,Option.getD_some]
theorem getD_at {α:Type} [Inhabited α] {l:List α} {k:Nat} (h:k < l.length):l.getD k default = l[k]:=by simp [h]
theorem X0u {w:World} {g n:Nat} {T:TypeId} {f:Nat -> ByteArray × Int} {l:List Basic} (hb:Blk w g T (Q1c enc2 n f)) (hl:l.length <= n) (hl2:l.length <= 1000) (hf:∀ i,i < l.length -> f i = (bName l i,Q1b l i) /\ Short (bName l i)) :
    Q3m w (.slice (some ⟨g,0,none⟩) l.length n) l :=
 X5u Q3g hb hl (by omega) hl fun c j h hc=>by
  obtain ⟨h1,h2⟩:=hf j h;have e:l.getD j default = l[j]:=getD_at h;have c0:=hc 0 (by omega)
  have c1:=hc 1 (by omega)
  rw [h1] at c0 c1;unfold bName Q1b at *;rw [e] at c0 c1 h2;simp only [enc2,List.getElem?_cons_zero,List.getElem?_cons_succ,Option.some.injEq] at c0 c1;exact ⟨c0.symm,c1.symm,h2⟩
theorem X0p {w:World} {g n:Nat} {T:TypeId} {f:Nat -> ByteArray × Int × Value} {l:List Q9i} (hb:Blk w g T (Q1c enc3 n f)) (hl:l.length <= n) (hl2:l.length <= 1000) (hf:∀ i,i < l.length -> ∃ m,f i = (cName l i,Q1k l i,m) /\ Q0e w m (Q0f l i) /\ Short (cName l i)) :
    Q3n w (.slice (some ⟨g,0,none⟩) l.length n) l :=
 X5u Q0u hb hl (by omega) hl fun c j h hc=>by
  obtain ⟨m,h1,hm,h2⟩:=hf j h;have e:l.getD j default = l[j]:=getD_at h;have c0:=hc 0 (by omega)
  have c1:=hc 1 (by omega)
  have c2:=hc 2 (by omega)
  rw [h1] at c0 c1 c2;unfold cName Q1k Q0f at *;rw [e] at c0 c1 c2 h2 hm;simp only [enc3,List.getElem?_cons_zero,List.getElem?_cons_succ,Option.some.injEq] at c0 c1 c2;exact ⟨c0.symm,c1.symm,c2 ▸ hm,h2⟩
theorem X2b {w:World} {g n:Nat} {T:TypeId} {f:Nat -> ByteArray × Int × Value} {l:List Gate} (hb:Blk w g T (Q1c enc3 n f)) (hl:l.length <= n) (hl2:l.length <= 1000) (hf:∀ i,i < l.length -> ∃ m,f i = (Q2f l i,Q3e l i,m) /\ Q0e w m (Q0m l i) /\ Short (Q2f l i)) :
    Q4b w (.slice (some ⟨g,0,none⟩) l.length n) l :=
 X5u Q0u hb hl (by omega) hl fun c j h hc=>by
  obtain ⟨m,h1,hm,h2⟩:=hf j h;have e:l.getD j default = l[j]:=getD_at h;have c0:=hc 0 (by omega)
  have c1:=hc 1 (by omega)
  have c2:=hc 2 (by omega)
  rw [h1] at c0 c1 c2;unfold Q2f Q3e Q0m at *;rw [e] at c0 c1 c2 h2 hm;simp only [enc3,List.getElem?_cons_zero,List.getElem?_cons_succ,Option.some.injEq] at c0 c1 c2;exact ⟨c0.symm,c1.symm,c2 ▸ hm,h2⟩
theorem _root_.Go.Tw.Q3m.short {w:World} {v:Value} {l:List Basic} (h:Q3m w v l) {k:Nat} (hk:k < l.length):Short (bName l k):=by
 obtain ⟨_,_,_,_,_,hc⟩:=h.opened;obtain ⟨_,_,_,_,_,_,hs⟩:=hc k hk;exact hs
theorem _root_.Go.Tw.Q3n.short {w:World} {v:Value} {l:List Q9i} (h:Q3n w v l) {k:Nat} (hk:k < l.length):Short (cName l k) /\ (Q0f l k).length <= 17592186043904:=by
 obtain ⟨_,_,_,_,_,hc⟩:=h.opened;obtain ⟨_,_,_,_,_,_,_,_,hm,hs⟩:=hc k hk;obtain ⟨_,_,_,hl,_⟩:=hm.opened;exact ⟨hs,hl⟩
theorem _root_.Go.Tw.Q4b.short {w:World} {v:Value} {l:List Gate} (h:Q4b w v l) {k:Nat} (hk:k < l.length):Short (Q2f l k) /\ (Q0m l k).length <= 17592186043904:=by
 obtain ⟨_,_,_,_,_,hc⟩:=h.opened;obtain ⟨_,_,_,_,_,_,_,_,hm,hs⟩:=hc k hk;obtain ⟨_,_,_,hl,_⟩:=hm.opened;exact ⟨hs,hl⟩
def Q3o (t:Tree) (k:Int):Int:=Q0g [t.err,Q0l (decide (k < 0) || decide ((t.causes.length:Int) <= k)) 10]
def Q4r (t:Tree) (k:Int):Tree:=if Q3o t k = 0 then ⟨t.basics,t.causes.eraseIdx k.toNat,t.gates⟩ else ⟨[],[],[]⟩
def Z9p:Value:=.agg #[.slice none 0 0,.slice none 0 0,.slice none 0 0]
theorem Q2v (w:World):IsTree w Z9p ⟨[],[],[]⟩:=⟨_,_,_,rfl,⟨Go.Tw.Rows.nil _ _ _,Go.Tw.Rows.nil _ _ _,Go.Tw.Rows.nil _ _ _⟩⟩
def Q9n (T:TypeId) (w:World) (v:Value) (t:Tree):Prop:=∀ wm,Ext w wm -> ∀ w',(w' = wm ∨ ∃ g cs,Blk wm g T cs /\ ∀ k,k ≠ g -> w'.heap[k]? = wm.heap[k]?) -> IsTree w' v t
theorem Q9n.ext {T:TypeId} {w w':World} {v:Value} {t:Tree} (h:Q9n T w v t) (hx:Ext w w'):Q9n T w' v t:=fun wm hm=>h wm (hx.trans hm)
theorem Q9n.is {T:TypeId} {w:World} {v:Value} {t:Tree} (h:Q9n T w v t):IsTree w v t:=h w (Ext.refl _) w (.inl rfl)
theorem Z6a {w w':World} {b:Nat} {T S:TypeId} {ds:Array Value} (h:Blk w b S ds) (hT:S ≠ T) (ho:w' = w ∨ ∃ g cs,Blk w g T cs /\ ∀ k,k ≠ g -> w'.heap[k]? = w.heap[k]?):Blk w' b S ds:=by
 rcases ho with rfl | ⟨g,cs,hb,ho⟩
 . exact h
 . exact h.only (Q2b h hb hT) ho
theorem Z8s {w w':World} {T:TypeId} {v:Value} {l:List Int} (h:Q0s w 0 3 (.int .i64) v l) (hT:T ≠ 3) (ho:w' = w ∨ ∃ g cs,Blk w g T cs /\ ∀ k,k ≠ g -> w'.heap[k]? = w.heap[k]?):Q0s w' 0 3 (.int .i64) v l:=by
 rcases ho with rfl | ⟨g,cs,hb,ho⟩
 . exact h
 . exact Q3j h hb hT ho
theorem Y1w (w:World) (v:Value) (t:Tree) (k:Int) (ht:IsTree w v t) (hk1:-9223372036854775808 <= k) (hk2:k <= 9223372036854775807) :
    Calls Tryz.prog 23 #[v,.int .i64 k] w fun e w'=>∃ u,e = .returned (.tuple #[u,.int .i64 (Q3o t k)]) /\ Q9n 33 w' u (Q4r t k) /\ Ext w w':=by
 obtain ⟨a,b,c,rfl,h3⟩:=ht;obtain ⟨A,capa,rfl,hl1,hcap1,_⟩:=h3.basics.opened;obtain ⟨B,capb,rfl,hl2,hcap2,_⟩:=h3.causes.opened;obtain ⟨G,capg,rfl,hl3,hcap3,_⟩:=h3.gates.opened;have HT0:=Lib.hid h3;clear h3;go_enter Tryz.func23,Tryz.ntmps23;go_wp2_with fail;change Calls _ _ _ ((w.alloc (.cells #[.slice A t.basics.length capa,.slice B t.causes.length capb,.slice G t.gates.length capg] 33)).alloc (.cells #[.slice none 0 0,.slice none 0 0,.slice none 0 0] 33)) _;obtain ⟨W,hWW,k0,k1,HXW,eW⟩:=Q5l w 33 #[.slice A t.basics.length capa,.slice B t.causes.length capb,.slice G t.gates.length capg] 33 #[.slice none 0 0,.slice none 0 0,.slice none 0 0];rw [hWW];clear hWW;have HT:=Lib.hid (HT0.out.ext HXW.out);refine (Q1y _ _ t ⟨_,_,_,rfl,HT.out⟩).mono ?_;rintro e w1 ⟨rfl,hx1⟩;have kt:=k0.ext hx1;have c0:=kt.cell 0;have c1:=kt.cell 1;have c2:=kt.cell 2;simp only [Go.Tw.gA,Go.Tw.gB,Go.Tw.gC] at c0 c1 c2;have HXX:=Lib.hid (HXW.out.trans hx1);have HX1:=Lib.hid hx1;clear kt hx1;have hbr:=k1.ext HX1.out;have K0:=Lib.hid (k0.ext HX1.out);clear k0 k1
 by_cases hq0:k < 0
 . have HE:Hid (Q3o t k = Q0g [t.err,Q0l true 10]):=Lib.hid (by unfold Q3o; simp [hq0])
   have hE0:Q0g [t.err,Q0l true 10] ≠ 0:=by unfold Q0g; split <;> simp_all [Q0g,Q0l]
   have HZT:Hid (Q4r t k = ⟨[],[],[]⟩):=Lib.hid (by unfold Q4r; rw [if_neg (by rw [HE.out]; exact hE0)])
   obtain ⟨E,hE⟩:∃ E,Q0g [t.err,Q0l true 10] = E:=⟨_,rfl⟩;have HF:Hid (∀ (w':World) (u:Value),Q0e w' u [t.err,Q0l true 10] -> Calls Tryz.prog 48 #[u] w' fun e w''=>e = .returned (.int .i64 E) /\ w' = w''):=by
    exact (by intro w' u h; rw [<- hE]; exact first_any _ _ _ h:∀ (w':World) (u:Value),Q0e w' u [t.err,Q0l true 10] -> Calls Tryz.prog 48 #[u] w' fun e w''=>e = .returned (.int .i64 E) /\ w' = w'')
   rw [hE] at hE0 HE;have hne:(E != 0) = true:=by simp [hE0]
   clear hE hE0;go_wp2_with fail;refine (Q5j _ true 10).mono ?_;rintro e w2 ⟨rfl,rfl⟩;obtain ⟨wh,hwh⟩:∃ x,Q0l true 10 = x:=⟨_,rfl⟩;rw [hwh] at HF ⊢;clear hwh;go_wp2_with fail;refine (HF.out _ _ (Q3h (l:=[t.err,wh]) (by simp))).mono ?_
   rintro e w3 ⟨rfl,hw3⟩;have hx3:Ext w1 w3:=by rw [<- hw3]; exact Ext.box w1 _
   clear hw3;have HX3:=Lib.hid hx3;replace hbr:=hbr.ext hx3;clear hx3 c0 c1 c2;go_wp2_with (refine Q0c rfl _ _ 33 rfl Tryz.Q0v rfl rfl hbr rfl rfl ?_ ?_; (focus (intro u hu; simp only [List.mem_cons,List.not_mem_nil,or_false] at hu; rcases hu with rfl | rfl | rfl <;> rfl)); intro w8 hb8 hl8 ho8)
   refine bodyPost_ret (Q0q Tryz.results23 rfl hb8 Tryz.Q2n Tryz.Q0v rfl) rfl ?_;refine ⟨_,by rw [HE.out]; rfl,?_,Below.trans (HXX.out.trans HX3.out) (hl8 _ (by omega))⟩
   rw [HZT.out];exact fun _ _ _ _=>Q2v _
 by_cases hq1:(t.causes.length:Int) <= k
 . have HE:Hid (Q3o t k = Q0g [t.err,Q0l true 10]):=Lib.hid (by unfold Q3o; simp [hq0,hq1])
   have hE0:Q0g [t.err,Q0l true 10] ≠ 0:=by unfold Q0g; split <;> simp_all [Q0g,Q0l]
   have HZT:Hid (Q4r t k = ⟨[],[],[]⟩):=Lib.hid (by unfold Q4r; rw [if_neg (by rw [HE.out]; exact hE0)])
   obtain ⟨E,hE⟩:∃ E,Q0g [t.err,Q0l true 10] = E:=⟨_,rfl⟩;have HF:Hid (∀ (w':World) (u:Value),Q0e w' u [t.err,Q0l true 10] -> Calls Tryz.prog 48 #[u] w' fun e w''=>e = .returned (.int .i64 E) /\ w' = w''):=by
    exact (by intro w' u h; rw [<- hE]; exact first_any _ _ _ h:∀ (w':World) (u:Value),Q0e w' u [t.err,Q0l true 10] -> Calls Tryz.prog 48 #[u] w' fun e w''=>e = .returned (.int .i64 E) /\ w' = w'')
   rw [hE] at hE0 HE;have hne:(E != 0) = true:=by simp [hE0]
   clear hE hE0;go_wp2_with fail;refine (Q5j _ true 10).mono ?_;rintro e w2 ⟨rfl,rfl⟩;obtain ⟨wh,hwh⟩:∃ x,Q0l true 10 = x:=⟨_,rfl⟩;rw [hwh] at HF ⊢;clear hwh;go_wp2_with fail;refine (HF.out _ _ (Q3h (l:=[t.err,wh]) (by simp))).mono ?_
   rintro e w3 ⟨rfl,hw3⟩;have hx3:Ext w1 w3:=by rw [<- hw3]; exact Ext.box w1 _
   clear hw3;have HX3:=Lib.hid hx3;replace hbr:=hbr.ext hx3;clear hx3 c0 c1 c2;go_wp2_with (refine Q0c rfl _ _ 33 rfl Tryz.Q0v rfl rfl hbr rfl rfl ?_ ?_; (focus (intro u hu; simp only [List.mem_cons,List.not_mem_nil,or_false] at hu; rcases hu with rfl | rfl | rfl <;> rfl)); intro w8 hb8 hl8 ho8)
   refine bodyPost_ret (Q0q Tryz.results23 rfl hb8 Tryz.Q2n Tryz.Q0v rfl) rfl ?_;refine ⟨_,by rw [HE.out]; rfl,?_,Below.trans (HXX.out.trans HX3.out) (hl8 _ (by omega))⟩
   rw [HZT.out];exact fun _ _ _ _=>Q2v _
 have HE:Hid (Q3o t k = Q0g [t.err,Q0l false 10]):=Lib.hid (by unfold Q3o; simp [hq0,hq1])
 have hE0:Q0g [t.err,Q0l false 10] = t.err:=by unfold Q0g; split <;> simp_all [Q0g,Q0l]
 rw [hE0] at HE;obtain ⟨E,hE⟩:∃ E,t.err = E:=⟨_,rfl⟩;have HF:Hid (∀ (w':World) (u:Value),Q0e w' u [E,Q0l false 10] -> Calls Tryz.prog 48 #[u] w' fun e w''=>e = .returned (.int .i64 E) /\ w' = w''):=by
  exact (by intro w' u h; rw [<- hE] at h ⊢; have:=first_any _ _ _ h; rw [hE0] at this; exact this:∀ (w':World) (u:Value),Q0e w' u [E,Q0l false 10] -> Calls Tryz.prog 48 #[u] w' fun e w''=>e = .returned (.int .i64 E) /\ w' = w'')
 rw [hE] at HE ⊢;have HEQ:=Lib.hid hE;clear hE hE0;have hq:(decide (k < 0) || decide ((t.causes.length:Int) <= k)) = false:=by simp [hq0,hq1]
 go_wp2_with fail;refine (Q5j _ false 10).mono ?_;rintro e w2 ⟨rfl,rfl⟩;obtain ⟨wh,hwh⟩:∃ x,Q0l false 10 = x:=⟨_,rfl⟩;rw [hwh] at HF ⊢;clear hwh;go_wp2_with fail;refine (HF.out _ _ (Q3h (l:=[E,wh]) (by simp))).mono ?_
 rintro e w3 ⟨rfl,hw3⟩;have hx3:Ext w1 w3:=by rw [<- hw3]; exact Ext.box w1 _
 clear hw3;have HX3:=Lib.hid hx3;replace hbr:=hbr.ext hx3;have HK0:=Lib.hid (K0.out.ext hx3);have HT3:=Lib.hid (HT.out.ext (HX1.out.trans hx3));clear hx3 c0 c1 c2 HF
 by_cases hE0:E = 0
 . have hne:(E != 0) = false:=by simp [hE0]
   have HWT:Hid (Q4r t k = ⟨t.basics,t.causes.eraseIdx k.toNat,t.gates⟩):=by exact (by unfold Q4r; rw [if_pos (by rw [HE.out,hE0])]:Q4r t k = _)
   have HV:=Lib.hid (Valid.of (HEQ.out.trans hE0));have hfit:=HV.out.fit;obtain ⟨kn,rfl⟩:∃ n:Nat,k = n:=⟨k.toNat,by omega⟩
   have HE0:Hid (Q3o t (kn:Int) = 0):=Lib.hid (HE.out.trans hE0);have hkl:kn < t.causes.length:=by omega
   clear hE0 hq0 hq1;go_wp2_with (refine Q0i rfl _ 33 rfl Tryz.Q2n Tryz.Q0v rfl HK0.out rfl ?_);refine (X8a _ _ t hfit.nb hfit.nc hfit.ng ⟨_,_,_,rfl,HT3.out⟩).mono ?_;rintro e w4 ⟨gb,gc,gg,mc,mg,rfl,hown,hx4⟩;have HX4:=Lib.hid (HX3.out.trans hx4);have HOWN:=Lib.hid hown;replace hbr:=hbr.ext hx4;have hl4:=hx4.size;have HT4:=Lib.hid (HT3.out.ext hx4);clear hown hx4;have HBR:=Lib.hid hbr;clear hbr;go_wp2_with (refine Q0c rfl _ _ 33 rfl Tryz.Q0v rfl rfl (Blk.made _ _ _) rfl rfl ?_ ?_; (focus (intro u hu; simp only [List.mem_cons,List.not_mem_nil,or_false] at hu; rcases hu with rfl | rfl | rfl <;> rfl)); intro w5 hb5 hl5 ho5; refine halted ?_)
   have hx5:Ext w4 w5:=Below.trans (Ext.box w4 _) (hl5 _ (Nat.le_refl _));have HX5:=Lib.hid (HX4.out.trans hx5);have HOWN5:=Lib.hid (HOWN.out.ext hx5);have HT5:=Lib.hid (HT4.out.ext hx5);have HB5:=Lib.hid hb5;have HBR5:=Lib.hid (HBR.out.ext hx5);have hgc:=HOWN.out.cau.lt;have hgc2:=HOWN.out.c;have hnc:=hfit.nc;have hl5s:=hb5.lt;have d1:=hb5.cell 1;simp only [Go.Tw.gA,Go.Tw.gB,Go.Tw.gC] at d1;have hkk:(kn:Int) + 1 <= 9223372036854775807:=by omega
   clear hb5 hl5 ho5 hx5;unfold Q2t;go_wp2_with fail;refine (Y8d w5 gc t.causes.length kn (cF t mc) HOWN5.out.cau hkl hnc (fun i hi=>Z3o (HOWN5.out.mem i hi))).mono ?_;rintro e w6 ⟨rfl,hb6,hl6,ho6⟩;have hw4:w5.heap.size > w4.heap.size:=hl5s;have ngc:w4.heap.size ≠ gc:=Nat.ne_of_gt hgc;have HB6:=Lib.hid (Q2k HB5.out ngc ho6);have HBR6:=Lib.hid (Q2k HBR5.out (Q2b HBR5.out HOWN5.out.cau (by decide)) ho6)
   have HBB6:=Lib.hid (Q2k HOWN5.out.bas (Q2b HOWN5.out.bas HOWN5.out.cau (by decide)) ho6)
   have HBG6:=Lib.hid (Q2k HOWN5.out.gat (Q2b HOWN5.out.gat HOWN5.out.cau (by decide)) ho6)
   have HBC6:=Lib.hid hb6;have HM6:Hid (∀ i,i < t.causes.length -> Q0s w6 0 3 (.int .i64) (mc i) (Q0f t.causes i)):=Lib.hid (fun i hi=>Q5p (HOWN5.out.mem i hi) HOWN5.out.cau (by decide) ho6)
   have HI6:Hid (∀ i,i < t.gates.length -> Q0s w6 0 3 (.int .i64) (mg i) (Q0m t.gates i)):=Lib.hid (fun i hi=>Q5p (HOWN5.out.inp i hi) HOWN5.out.cau (by decide) ho6)
   have HL6:=Lib.hid hl6;clear hb6 hl6 ho6 d1;go_wp2_with (refine Q0o rfl _ _ 30 rfl Tryz.Y6q (u:=.slice (some ⟨gc,0,none⟩) (t.causes.length - 1) t.causes.length) rfl rfl rfl rfl HB6.out (by show 1 < 3; omega) ?_; intro w7 hb7 hl7 ho7; refine halted ?_)
   have n1:=Q2b HBB6.out HB6.out (by decide)
   have n2:=Q2b HBC6.out HB6.out (by decide)
   have n3:=Q2b HBG6.out HB6.out (by decide)
   have n4:w.heap.size + 1 ≠ w4.heap.size:=Nat.ne_of_lt HBR.out.lt;have HBB7:=Lib.hid (HBB6.out.only n1 ho7);have HBC7:=Lib.hid (HBC6.out.only n2 ho7);have HBG7:=Lib.hid (HBG6.out.only n3 ho7);have HBR7:=Lib.hid (HBR6.out.only n4 ho7);have HM7:Hid (∀ i,i < t.causes.length -> Q0s w7 0 3 (.int .i64) (mc i) (Q0f t.causes i)):=Lib.hid (fun i hi=>Q3j (HM6.out i hi) HB6.out (by decide) ho7)
   have HI7:Hid (∀ i,i < t.gates.length -> Q0s w7 0 3 (.int .i64) (mg i) (Q0m t.gates i)):=Lib.hid (fun i hi=>Q3j (HI6.out i hi) HB6.out (by decide) ho7)
   have HB7:Hid (Blk w7 w4.heap.size 33 #[.slice (some ⟨gb,0,none⟩) t.basics.length t.basics.length,.slice (some ⟨gc,0,none⟩) (t.causes.length - 1) t.causes.length,.slice (some ⟨gg,0,none⟩) t.gates.length t.gates.length]):=Lib.hid (hb7);have hx1w:w.heap.size <= w3.heap.size:=Nat.le_trans HXX.out.size HX3.out.size;have HX7:Hid (Ext w w7):=Lib.hid (Below.trans (HXX.out.trans HX5.out) (Below.trans (HL6.out w.heap.size (by omega)) (hl7 w.heap.size (by omega))))
   clear hb7 hl7 ho7 n1 n2 n3 n4;unfold Q2t;go_wp2_with (first | (refine Q0i rfl _ 33 rfl Tryz.Q2n Tryz.Q0v rfl HB7.out rfl ?_) | (refine Q0c rfl _ _ 33 rfl Tryz.Q0v rfl rfl HBR7.out rfl rfl ?_ ?_; (focus (intro u hu; simp only [List.mem_cons,List.not_mem_nil,or_false] at hu; rcases hu with rfl | rfl | rfl <;> rfl)); intro w8 hb8 hl8 ho8))
   have e1:=Q2b HBB7.out HBR7.out (by decide)
   have e2:=Q2b HBC7.out HBR7.out (by decide)
   have e3:=Q2b HBG7.out HBR7.out (by decide)
   have f1:=HBB7.out.only e1 ho8;have f2:=HBC7.out.only e2 ho8;have f3:=HBG7.out.only e3 ho8;refine bodyPost_ret (Q0q Tryz.results23 rfl hb8 Tryz.Q2n Tryz.Q0v rfl) rfl ?_;refine ⟨_,by rw [HE0.out]; rfl,?_,Below.trans HX7.out (hl8 _ (by omega))⟩
   rw [HWT.out];intro wm hwm w9 ho9;replace f1:=Z6a (f1.ext hwm) (by decide) ho9
   replace f2:=Z6a (f2.ext hwm) (by decide) ho9
   replace f3:=Z6a (f3.ext hwm) (by decide) ho9
   have HM8:∀ i,i < t.causes.length -> Q0e w9 (mc i) (Q0f t.causes i):=fun i hi=>(Z8s ((Q3j (HM7.out i hi) HBR7.out (by decide) ho8).below hwm) (by decide) ho9).ints (HT.out.causes.short hi).2
   have HI8:∀ i,i < t.gates.length -> Q0e w9 (mg i) (Q0m t.gates i):=fun i hi=>(Z8s ((Q3j (HI7.out i hi) HBR7.out (by decide) ho8).below hwm) (by decide) ho9).ints (HT.out.gates.short hi).2
   refine ⟨_,_,_,rfl,⟨?_,?_,?_⟩⟩
   . exact X0u f1 (Nat.le_refl _) hfit.nb fun i hi=>⟨rfl,HT.out.basics.short hi⟩
   . have hle:(t.causes.eraseIdx kn).length = t.causes.length - 1:=List.length_eraseIdx_of_lt hkl
     have:=X0p (l:=t.causes.eraseIdx kn) f2 (by omega) (by omega) fun i hi=>by
      have hd:=Z3r t.causes kn i hi;unfold cName Q1k Q0f;rw [hd];rw [hle] at hi;unfold Z9o
      by_cases hik:i < kn
      . rw [if_pos hik,if_pos hik]
        exact ⟨_,rfl,HM8 i (by omega),(HT.out.causes.short (by omega)).1⟩
      . rw [if_neg hik,if_neg hik,if_pos hi]
        exact ⟨_,rfl,HM8 (i + 1) (by omega),(HT.out.causes.short (by omega)).1⟩
     rw [hle] at this;exact this
   . exact X2b f3 (Nat.le_refl _) hfit.ng fun i hi=>⟨_,rfl,HI8 i hi,(HT.out.gates.short hi).1⟩
 . have hne:(E != 0) = true:=by simp [hE0]
   have HZT:Hid (Q4r t k = ⟨[],[],[]⟩):=Lib.hid (by unfold Q4r; rw [if_neg (by rw [HE.out]; exact hE0)])
   go_wp2_with (refine Q0c rfl _ _ 33 rfl Tryz.Q0v rfl rfl hbr rfl rfl ?_ ?_; (focus (intro u hu; simp only [List.mem_cons,List.not_mem_nil,or_false] at hu; rcases hu with rfl | rfl | rfl <;> rfl)); intro w8 hb8 hl8 ho8)
   refine bodyPost_ret (Q0q Tryz.results23 rfl hb8 Tryz.Q2n Tryz.Q0v rfl) rfl ?_;refine ⟨_,by rw [HE.out]; rfl,?_,Below.trans (HXX.out.trans HX3.out) (hl8 _ (by omega))⟩
   rw [HZT.out];exact fun _ _ _ _=>Q2v _
theorem Y2d (w:World) (v:Value) (t:Tree) (k:Int) (ht:IsTree w v t) (hk1:-9223372036854775808 <= k) (hk2:k <= 9223372036854775807) :
    Calls Tryz.prog 23 #[v,.int .i64 k] w fun e w'=>∃ u,e = .returned (.tuple #[u,.int .i64 (Q3o t k)]) /\ IsTree w' u (Q4r t k) /\ Ext w w' :=
 (Y1w w v t k ht hk1 hk2).mono fun _ _ ⟨u,h1,h2,h3⟩=>⟨u,h1,h2.is,h3⟩
end Go.Proofs
