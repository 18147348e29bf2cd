/- Laws: append within the capacity, clear; contract: slices.Delete of causes. -/
import Derived.Test.YtmaejccjimkbiaaGreatDoorFx33
set_option linter.unusedVariables false
set_option linter.unusedSimpArgs false
set_option linter.constructorNameAsVariable false
namespace Go.Tw
open Go.RowKit Go.Flow
theorem X8d {P:Program} {w:World} (t ty e:TypeId) (ht:P.underlying t = some (.slice e)) {sz:Nat} (hs:∀ w,(sizeOf e).run P w = .ok sz w) {g:Nat} {T:TypeId} {cur:Array Value} (hb:Blk w g T cur) (k m cap mc:Nat) (hkm:k + m ≤ cap) (sp:Option Addr) (new:List Value) (hlen:new.length = m * sz)
    (hsrc:∀ j v,new[j]? = some v → ∃ b off,sp = some ⟨b,off,none⟩ ∧ w.cell? ⟨b,off + j,none⟩ = some v) (hfit:k * sz + new.length ≤ cur.size) (h1:∀ v ∈ new,v.oneCell' = true) :
    ∃ w',(Builtin.append_ #[t,t] ty #[.slice (some ⟨g,0,none⟩) k cap,.slice sp m mc]).run P w = .ok (.slice (some ⟨g,0,none⟩) (k + m) cap) w' ∧ Blk w' g T (Q1y cur (k * sz) new) ∧ (∀ n,n ≤ g → Below n w w') ∧ ∀ k,k ≠ g → w'.heap[k]? = w.heap[k]?:=by
 obtain ⟨w',hr,hb',hl,hoo⟩:=Q5d (P:=P) (off:=k * sz) new 0 w cur hb h1 (by simpa using hfit)
 refine ⟨w',?_,by simpa using hb',hl,hoo⟩
 have hfc:(Builtin.firstCells sz m (.slice sp m mc)).run P w = .ok new.toArray w:=by
  cases sp with
  | none =>
    have:new = []:=by
     cases new with
     | nil=>rfl
     | cons v vs=>obtain ⟨b,off,he,_⟩:=hsrc 0 v rfl; cases he
    subst this;simp [Builtin.firstCells]
  | some ad =>
    have hl2:=run_loadCells_list (P:=P) w ad new (fun j v hv=>by
     obtain ⟨b,off,he,hc⟩:=hsrc j v hv;cases he;rw [addr_add]; exact hc)
    rw [hlen] at hl2
    simpa [Builtin.firstCells] using hl2
 have hadd:(⟨g,0,none⟩:Addr).add (k * sz) = ⟨g,k * sz,none⟩:=by rw [addr_add,Nat.zero_add]
 simp [Builtin.append_,run_underlying ht,Builtin.lenOf,hs,hfc,hkm,hadd,hr]
theorem X8m {P:Program} {w:World} (t ty e:TypeId) (ht:P.underlying t = some (.slice e)) {g off:Nat} {T:TypeId} {cur:Array Value} (hb:Blk w g T cur) (cap:Nat) (z:Value) (hz:∀ w,(zeroValue e).run P w = .ok z w) (h1:∀ v ∈ (Builtin.zeroCells z.cells 1).toList,v.oneCell' = true) (hfit:off + (Builtin.zeroCells z.cells 1).size ≤ cur.size) :
    ∃ w',(Builtin.clear_ #[t] ty #[.slice (some ⟨g,off,none⟩) 1 cap]).run P w = .ok (.tuple #[]) w' ∧ Blk w' g T (Q1y cur off (Builtin.zeroCells z.cells 1).toList) ∧ (∀ n,n ≤ g → Below n w w') ∧ ∀ k,k ≠ g → w'.heap[k]? = w.heap[k]?:=by
 obtain ⟨w',hr,hb',hl,hoo⟩:=Q5d (P:=P) (off:=off) (Builtin.zeroCells z.cells 1).toList 0 w cur hb h1 (by simpa using hfit)
 refine ⟨w',?_,by simpa using hb',hl,hoo⟩
 simp [Builtin.clear_,run_underlying ht,hz,hr]
theorem X4m {P:Program} {K:Value → World → Prop} {o:Oper} {a:Act} {w:World} (s x:Operand) (t e:TypeId) (ho:o.op = .call { callee:=.builtin .append,args:=#[s,x],argTypes:=#[t,t] }) (ht:P.underlying t = some (.slice e)) {sz:Nat} (hs:∀ w,(sizeOf e).run P w = .ok sz w) {g:Nat} {T:TypeId} {cur:Array Value} (hb:Blk w g T cur) (k m cap mc:Nat) (hkm:k + m ≤ cap) (sp:Option Addr)
    (h1:a.eval s = .slice (some ⟨g,0,none⟩) k cap) (h2:a.eval x = .slice sp m mc) (new:List Value) (hlen:new.length = m * sz)
    (hsrc:∀ j v,new[j]? = some v → ∃ b off,sp = some ⟨b,off,none⟩ ∧ w.cell? ⟨b,off + j,none⟩ = some v) (hfit:k * sz + new.length ≤ cur.size) (ho1:∀ v ∈ new,v.oneCell' = true)
    (h:∀ w',Blk w' g T (Q1y cur (k * sz) new) → (∀ n,n ≤ g → Below n w w') → (∀ k,k ≠ g → w'.heap[k]? = w.heap[k]?) → K (.slice (some ⟨g,0,none⟩) (k + m) cap) w'):gives P K ((execOp a.eval o).run P w):=by
 obtain ⟨w',hr,hb',hl,hoo⟩:=X8d (P:=P) t o.type e ht hs hb k m cap mc hkm sp new hlen hsrc hfit ho1;unfold execOp;simp only [ho,resolve,invoke,builtin,Sem.run_bind,Sem.run_pure,Result.andThen_ok,List.map_toArray,List.map_cons,List.map_nil,h1,h2,hr];exact h w' hb' hl hoo
theorem X3p {P:Program} {w:World} {ops:Array Oper} {rest:List Oper} {o:Oper} {a:Act} {Q:Exit → Act → World → Prop} (hgd:o.guard = none) (x:Operand) (t e:TypeId) (ho:o.op = .call { callee:=.builtin .clear,args:=#[x],argTypes:=#[t] }) (ht:P.underlying t = some (.slice e))
    {g off cap:Nat} (hx:a.eval x = .slice (some ⟨g,off,none⟩) 1 cap) {T:TypeId} {cur:Array Value} (hb:Blk w g T cur) (z:Value) (hz:∀ w,(zeroValue e).run P w = .ok z w) (h1:∀ v ∈ (Builtin.zeroCells z.cells 1).toList,v.oneCell' = true) (hfit:off + (Builtin.zeroCells z.cells 1).size ≤ cur.size)
    (hK:∀ w',Blk w' g T (Q1y cur off (Builtin.zeroCells z.cells 1).toList) → (∀ n,n ≤ g → Below n w w') → (∀ k,k ≠ g → w'.heap[k]? = w.heap[k]?) → wpList P ops Q rest (a.put o.dst (.tuple #[])) w'):wpList P ops Q (o :: rest) a w:=by
 refine wpList_plain hgd fun K' hK'=>?_;unfold Oper.wp;obtain ⟨w',hr,hb',hl,hoo⟩:=X8m (P:=P) t o.type e ht hb cap z hz h1 hfit;have hr2:(execOp a.eval o).run P w = .ok (.value (.tuple #[])) w':=by
  unfold execOp;simp only [ho,resolve,invoke,builtin,Sem.run_bind,Sem.run_pure,Result.andThen_ok,List.map_toArray,List.map_cons,List.map_nil,hx,hr]
 rw [hr2];exact hK' _ _ (hK w' hb' hl hoo)
end Go.Tw
namespace Go.Proofs
open Go.RowKit Go.Tw Go.Flow
theorem X0w:(Builtin.zeroCells (Value.agg #[.string emp,.int .i64 0,.slice none 0 0]).cells 1).toList = enc3 zero3:=by
 apply List.ext_getElem?
 intro j
 by_cases hj:j < 3
 · have:j = 0 ∨ j = 1 ∨ j = 2:=by omega
   rcases this with rfl | rfl | rfl <;> simp [Builtin.zeroCells,Value.cells,enc3,zero3]
 · rw [List.getElem?_eq_none (by simp [Builtin.zeroCells,Value.cells]; omega),List.getElem?_eq_none (by simp [enc3]; omega)]
theorem Y4z:(Builtin.zeroCells (Value.agg #[.string emp,.int .i64 0,.slice none 0 0]).cells 1).size = 3:=by
 rw [← Array.length_toList,X0w]; rfl
theorem Tryz.Z6a (w:World):(zeroValue 126).run Tryz.prog w = .ok (.agg #[.string emp,.int .i64 0,.slice none 0 0]) w:=by kernel_rfl
def Z5v {α:Type} (f:Nat → α) (z:α) (n k:Nat) (i:Nat):α:=if i < k then f i else if i < n - 1 then f (i + 1) else z
theorem Y8m (f:Nat → ByteArray × Int × Value) (n k:Nat) (hk:k < n) :
    Q1y (Q1y (Q1j enc3 n f) (k * 3) ((List.range (n - (k + 1))).flatMap fun i=>enc3 (f (k + 1 + i)))) ((n - 1) * 3) (enc3 zero3) = Q1j enc3 n (Z5v f zero3 n k):=by
 have hlen:((List.range (n - (k + 1))).flatMap fun i=>enc3 (f (k + 1 + i))).length = (n - (k + 1)) * 3:=by
  have:=Q1c Q0s (n - (k + 1)) (fun i=>f (k + 1 + i));unfold Q1j at this
  simpa using this
 have h1:Q1y (Q1j enc3 n f) (k * 3) ((List.range (n - (k + 1))).flatMap fun i=>enc3 (f (k + 1 + i))) = Q1j enc3 n (fun i=>if i < k then f i else if i < n - 1 then f (i + 1) else f i):=by
  apply Array.ext_getElem?
  intro j;have hsz:=Q1c Q0s n f;rw [Q7i _ _ _ _ (by rw [hlen,hsz]; omega),hlen]
  by_cases hj:j < n * 3
  · have e:j = j / 3 * 3 + j % 3:=by omega
    by_cases hin:k * 3 ≤ j ∧ j < k * 3 + (n - (k + 1)) * 3
    · rw [if_pos hin]
      have e2:j - k * 3 = (j / 3 - k) * 3 + j % 3:=by omega
      have hg:=Q2r Q0s (fun i=>f (k + 1 + i)) (n:=n - (k + 1)) (i:=j / 3 - k) (j:=j % 3) (by omega) (by omega)
      unfold Q1j at hg;rw [List.getElem?_toArray,← e2] at hg;rw [hg]
      conv=>rhs; rw [e]
      rw [Q2r Q0s _ (by omega) (by omega),if_neg (by omega),if_pos (by omega),show k + 1 + (j / 3 - k) = j / 3 + 1 by omega]
    · rw [if_neg hin]
      conv=>lhs; rw [e]
      conv=>rhs; rw [e]
      rw [Q2r Q0s _ (by omega) (by omega),Q2r Q0s _ (by omega) (by omega)]
      by_cases hq:j / 3 < k
      · rw [if_pos hq]
      · rw [if_neg hq,if_neg (by omega)]
  · rw [if_neg (by omega),Array.getElem?_eq_none (by omega),Array.getElem?_eq_none (by rw [Q1c Q0s]; omega)]
 rw [h1,X5c Q0s _ (show n - 1 < n by omega)]
 apply Q3x
 intro i hi;unfold Z5v
 by_cases h:i = n - 1
 · rw [if_pos h,if_neg (by omega),if_neg (by omega)]
 · rw [if_neg h]
   by_cases h2:i < k
   · rw [if_pos h2,if_pos h2]
   · rw [if_neg h2,if_neg h2,if_pos (by omega),if_pos (by omega)]
set_option maxRecDepth 100000 in
set_option maxHeartbeats 1000000 in
theorem Y5i (w:World) (g n k:Nat) (f:Nat → ByteArray × Int × Value) (hb:Blk w g 126 (Q1j enc3 n f)) (hk:k < n) (hn:n ≤ 1000) (hf:∀ i,i < n → (f i).2.2.oneCell' = true) :
    Calls Tryz.prog 90 #[.slice (some ⟨g,0,none⟩) n n,.int .i64 k,.int .i64 ((k:Int) + 1)] w fun e w'=>e = .returned (.slice (some ⟨g,0,none⟩) (n - 1) n) ∧ Blk w' g 126 (Q1j enc3 n (Z5v f zero3 n k)) ∧ (∀ n,n ≤ g → Below n w w') ∧ ∀ b,b < w.heap.size → b ≠ g → w'.heap[b]? = w.heap[b]?:=by
 have hne:((k:Int) == (k:Int) + 1) = false:=by rw [beq_eq_false_iff_ne]; omega
 have k1:(k:Int) + 1 ≤ (n:Int):=by omega
 have k2:(k:Int) ≤ (k:Int) + 1:=by omega
 have k3:(0:Int) ≤ (k:Int) + 1:=by omega
 have k4:¬ n < k:=by omega
 have k5:¬ n < k + 1:=by omega
 have HB:=Lib.hid hb;have HF:=Lib.hid hf;clear hb hf;go_enter Tryz.func90,Tryz.ntmps90;go_wp2;have hdr:=(Ext.refl w).drew;have HS:=Lib.hid (Y8m f n k hk);have hlen:((List.range (n - (k + 1))).flatMap fun i=>enc3 (f (k + 1 + i))).length = (n - (k + 1)) * 3:=by
  have:=Q1c Q0s (n - (k + 1)) (fun i=>f (k + 1 + i));unfold Q1j at this
  simpa using this
 have hsz:=Q1c Q0s n f;have HLEN:=Lib.hid hlen;have HSZ:=Lib.hid hsz;clear hlen hsz;refine Flow.Q3v [.plain,.plain,.plain,.plain,.plain,.plain,.last,.last] [0,1,2,3,4,5,6,7] [[],[],[0,1],[],[],[3,4],[0,1,2,3,4,5],[0,1,2,3,4,5,6]] [6,7]
  [.is 0 (fun v=>.slice (some ⟨g,0,none⟩) n n),.is 1 (fun v=>.int .i64 k),.is 2 (fun v=>.slice (some ⟨g,0,none⟩) k n),.is 3 (fun v=>.slice (some ⟨g,0,none⟩) n n),.is 4 (fun v=>.int .i64 ((k:Int) + 1)),.is 5 (fun v=>.slice (if n = k + 1 then some ⟨g,0,none⟩ else some ⟨g,(k + 1) * 3,none⟩) (n - (k + 1)) (n - (k + 1))),.none,.none]
  [fun v w1 w2=>v 6 = .slice (some ⟨g,0,none⟩) (n - 1) n ∧ Blk w2 g 126 (Q1y (Q1j enc3 n f) (k * 3) ((List.range (n - (k + 1))).flatMap fun i=>enc3 (f (k + 1 + i)))) ∧ (∀ n,n ≤ g → Below n w1 w2) ∧ ∀ k,k ≠ g → w2.heap[k]? = w1.heap[k]?,fun v w1 w2=>v 7 = .slice (some ⟨g,0,none⟩) (n - 1) n ∧ Blk w2 g 126 (Q1y (Q1j enc3 n f) (k * 3) ((List.range (n - (k + 1))).flatMap fun i=>enc3 (f (k + 1 + i)))) ∧ (∀ n,n ≤ g → Below n w1 w2) ∧ ∀ k,k ≠ g → w2.heap[k]? = w1.heap[k]?] (by kernel_rfl) rfl (by kernel_rfl) ⟨?g0,?g1,?g2,?g3,?g4,?g5,?g6,?g7,trivial⟩ ?post
 case g0 =>
  intro v w1 hx;intro bb hbb;subst hbb;refine ⟨_,fun w=>?_,rfl⟩;go_simp
 case g1 =>
  intro v w1 hx;intro bb hbb;subst hbb;refine ⟨_,fun w=>?_,rfl⟩;go_simp
 case g2 =>
  intro v w1 hx (q0:v 0 = .slice (some ⟨g,0,none⟩) n n) (q1:v 1 = .int .i64 k);intro bb hbb;subst hbb;refine ⟨_,fun w=>?_,rfl⟩;go_simp
 case g3 =>
  intro v w1 hx;intro bb hbb;subst hbb;refine ⟨_,fun w=>?_,rfl⟩;go_simp
 case g4 =>
  intro v w1 hx;intro bb hbb;subst hbb;refine ⟨_,fun w=>?_,rfl⟩;go_simp
 case g5 =>
  intro v w1 hx (q3:v 3 = .slice (some ⟨g,0,none⟩) n n) (q4:v 4 = .int .i64 ((k:Int) + 1));intro bb hbb;subst hbb;refine ⟨_,fun w=>?_,rfl⟩;go_simp
 case g6 =>
  intro v w1 hx (q0:v 0 = .slice (some ⟨g,0,none⟩) n n) (q1:v 1 = .int .i64 k) (q2:v 2 = .slice (some ⟨g,0,none⟩) k n) (q3:v 3 = .slice (some ⟨g,0,none⟩) n n) (q4:v 4 = .int .i64 ((k:Int) + 1)) (q5:v 5 = .slice (if n = k + 1 then some ⟨g,0,none⟩ else some ⟨g,(k + 1) * 3,none⟩) (n - (k + 1)) (n - (k + 1)));intro wl hT;obtain rfl:wl = w1:=hT;intro bb hbb;intro K hK;have o1:bb.eval (.tmp 22) = .slice (some ⟨g,0,none⟩) k n:=by rw [hbb]; dsimp only; (try simp (discharger:=decide) only [eval_put_ne]); rw [Q0a (by simp only [size_put]; exact (by decide:22 < 33))]; exact q2
  have o2:bb.eval (.tmp 25) = .slice (if n = k + 1 then some ⟨g,0,none⟩ else some ⟨g,(k + 1) * 3,none⟩) (n - (k + 1)) (n - (k + 1)):=by rw [hbb]; dsimp only; (try simp (discharger:=decide) only [eval_put_ne]); rw [Q0a (by simp only [size_put]; exact (by decide:25 < 33))]; exact q5
  refine X4m (.tmp 22) (.tmp 25) 34 126 rfl Tryz.underlying34 Tryz.X4l (HB.out.ext (hdr.trans hx)) k (n - (k + 1)) n (n - (k + 1)) (by omega) _ o1 o2 ((List.range (n - (k + 1))).flatMap fun i=>enc3 (f (k + 1 + i))) HLEN.out ?_ (by rw [HLEN.out,HSZ.out]; omega) ?_ (fun w' hb hl ho=>hK _ _ ⟨by show Value.slice _ (k + (n - (k + 1))) n = _; rw [show k + (n - (k + 1)) = n - 1 by omega],hb,hl,ho⟩)
  · intro j v hv
    have hj:=(List.getElem?_eq_some_iff.1 hv).1;rw [HLEN.out] at hj;refine ⟨g,(k + 1) * 3,by rw [if_neg (by omega)],?_⟩
    rw [(HB.out.ext (hdr.trans hx)).cell,show (k + 1) * 3 + j = (k + 1 + j / 3) * 3 + j % 3 by omega,Q2r Q0s _ (by omega) (by omega)]
    have hg:=Q2r Q0s (fun i=>f (k + 1 + i)) (n:=n - (k + 1)) (i:=j / 3) (j:=j % 3) (by omega) (by omega)
    unfold Q1j at hg;rw [List.getElem?_toArray,show j / 3 * 3 + j % 3 = j by omega,hv] at hg
    exact hg.symm
  · intro u hu
    obtain ⟨i,hi,hu⟩:=List.mem_flatMap.1 hu;have hi:=List.mem_range.1 hi;simp only [enc3,List.mem_cons,List.not_mem_nil,or_false] at hu
    rcases hu with rfl | rfl | rfl
    · rfl
    · rfl
    · exact HF.out _ (by omega)
 case g7 =>
  intro v w1 hx (q0:v 0 = .slice (some ⟨g,0,none⟩) n n) (q1:v 1 = .int .i64 k) (q2:v 2 = .slice (some ⟨g,0,none⟩) k n) (q3:v 3 = .slice (some ⟨g,0,none⟩) n n) (q4:v 4 = .int .i64 ((k:Int) + 1)) (q5:v 5 = .slice (if n = k + 1 then some ⟨g,0,none⟩ else some ⟨g,(k + 1) * 3,none⟩) (n - (k + 1)) (n - (k + 1)));intro wl hT;replace hT:(fun v w1 w2=>v 6 = .slice (some ⟨g,0,none⟩) (n - 1) n ∧ Blk w2 g 126 (Q1y (Q1j enc3 n f) (k * 3) ((List.range (n - (k + 1))).flatMap fun i=>enc3 (f (k + 1 + i)))) ∧ (∀ n,n ≤ g → Below n w1 w2) ∧ ∀ k,k ≠ g → w2.heap[k]? = w1.heap[k]?) v w1 wl:=hT;intro bb hbb;subst hbb;obtain ⟨hT1,hT2⟩:=hT;intro K hK;go_simp;exact hK _ _ ⟨rfl,hT2⟩
 case post =>
  intro v w1 hx (q0:v 0 = .slice (some ⟨g,0,none⟩) n n) (q1:v 1 = .int .i64 k) (q2:v 2 = .slice (some ⟨g,0,none⟩) k n) (q3:v 3 = .slice (some ⟨g,0,none⟩) n n) (q4:v 4 = .int .i64 ((k:Int) + 1)) (q5:v 5 = .slice (if n = k + 1 then some ⟨g,0,none⟩ else some ⟨g,(k + 1) * 3,none⟩) (n - (k + 1)) (n - (k + 1)));intro w2 hE;replace hE:(fun v w1 w2=>v 7 = .slice (some ⟨g,0,none⟩) (n - 1) n ∧ Blk w2 g 126 (Q1y (Q1j enc3 n f) (k * 3) ((List.range (n - (k + 1))).flatMap fun i=>enc3 (f (k + 1 + i)))) ∧ (∀ n,n ≤ g → Below n w1 w2) ∧ ∀ k,k ≠ g → w2.heap[k]? = w1.heap[k]?) v w1 w2:=hE;simp only [Flow.acts,Act.put];go_simp;obtain ⟨e7,hb7,hl7,ho7⟩:=hE;have hn1:((n - 1:Nat):Int) = (n:Int) - 1:=by omega
  have hn2:(0:Int) ≤ ((n - 1:Nat):Int):=by omega
  have hn3:((n - 1:Nat):Int) ≤ (n:Int):=by omega
  have hn4:¬ n = n - 1:=by omega
  have hn5:n - (n - 1) = 1:=by omega
  have HX7:=Lib.hid (hdr.trans hx);have HB7:=Lib.hid hb7;have HL7:=Lib.hid hl7;have HO7:=Lib.hid ho7;clear hb7 hl7 ho7 hx hdr hn1;go_wp2_with (refine X3p rfl _ 34 126 rfl Tryz.underlying34 rfl HB7.out _ Tryz.Z6a (by rw [X0w]; intro u hu; simp only [enc3,zero3,List.mem_cons,List.not_mem_nil,or_false] at hu; rcases hu with rfl | rfl | rfl <;> rfl) (by rw [Y4z,X8a,HSZ.out]; omega) ?_; rw [X0w]; intro w9 hb9 hl9 ho9; have HB9:=Lib.hid hb9; have HL9:=Lib.hid hl9; have HO9:=Lib.hid ho9; clear hb9 hl9 ho9)
  · have hnk:=‹n = k + 1›
    subst hnk;go_ret;refine ⟨rfl,?_,fun m hm=>?_,fun b hb hne=>?_⟩
    · rw [← HS.out]; exact HB9.out
    · exact (HX7.out.below (Nat.le_of_lt (Nat.lt_of_le_of_lt hm HB.out.lt))).trans ((HL7.out m hm).trans (HL9.out m hm))
    · rw [HO9.out b hne,HO7.out b hne]
      exact HX7.out.block b hb
  · go_ret
    refine ⟨rfl,?_,fun m hm=>?_,fun b hb hne=>?_⟩
    · rw [← HS.out]; exact HB9.out
    · exact (HX7.out.below (Nat.le_of_lt (Nat.lt_of_le_of_lt hm HB.out.lt))).trans ((HL7.out m hm).trans (HL9.out m hm))
    · rw [HO9.out b hne,HO7.out b hne]
      exact HX7.out.block b hb
end Go.Proofs
