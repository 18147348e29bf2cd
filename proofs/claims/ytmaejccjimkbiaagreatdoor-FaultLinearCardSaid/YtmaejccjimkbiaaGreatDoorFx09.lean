/- The contract of the reference's weight. The contract of the reference's Lowest. Contracts: Q0b with others in their place, probabilities. Contracts: probabilities of the reference. The last operations of a region: the frame under a name, its slots looked up one by one (to reckon the frame out runs away). Contract: a gate's mask and need. Slices of structs that a call makes and appends to, read as lists. Contract: the gates' masks and needs. -/
import Derived.Test.YtmaejccjimkbiaaGreatDoorFx08
import Derived.Test.YtmaejccjimkbiaaGreatDoorFx05
import Derived.Shelf.Abstract
set_option linter.unusedVariables false
set_option linter.unusedSimpArgs false
set_option linter.constructorNameAsVariable false
namespace Go.Proofs
open Go.RowKit Go.Tw Go.Flow
theorem Y4s {s:Nat} (hs:s < 65536):evL (bitsOf s) = evN s:=by
 funext i
 unfold evL evN has bitsOf;rw [Bool.eq_iff_iff];simp only [List.contains_iff_mem,List.mem_map,List.mem_filter,List.mem_range]
 constructor
 · rintro ⟨a,⟨_,h⟩,he⟩
   have:a = i:=by have:(a:Int) = (i:Int):=he; omega
   rw [← this]; exact h
 · intro h
   refine ⟨i,⟨?_,h⟩,rfl⟩
   rcases Nat.lt_or_ge i 16 with h' | h'
   · exact h'
   · rw [Nat.testBit_lt_two_pow (Nat.lt_of_lt_of_le hs (Nat.pow_le_pow_right (n:=2) (by omega) h'))] at h
     cases h
structure Small (c:List Int):Prop where
 len:c.length ≤ 12
 range:∀ x ∈ c,0 ≤ x ∧ x ≤ 16
theorem Small.ix {c:List Int} (h:Small c) {j:Nat} (hj:j < c.length):0 ≤ ix c j ∧ ix c j ≤ 16:=by
 rw [Q8m hj]; exact h.range _ (List.getElem_mem hj)
theorem Small.factor {c:List Int} (h:Small c) (s:Nat) {j:Nat} (hj:j < c.length):0 ≤ factor c s j ∧ factor c s j ≤ 16:=by
 have:=h.ix hj;unfold Tw.factor
 split <;> omega
theorem Y0b {c:List Int} (h:Small c) (s:Nat):∀ j,j ≤ c.length → 0 ≤ Q7f c s j ∧ Q7f c s j ≤ 16 ^ j
 | 0,_=>by simp [Q7f]
 | j + 1,hj=>by
   obtain ⟨h1,h2⟩:=Y0b h s j (by omega)
   obtain ⟨h3,h4⟩:=h.factor s (show j < c.length by omega)
   unfold Q7f;refine ⟨Int.mul_nonneg h1 h3,?_⟩;rw [Int.pow_succ];exact Int.mul_le_mul h2 h4 h3 (Int.le_trans h1 h2)
theorem Z0l {j:Nat} (h:j ≤ 12):(16:Int) ^ j ≤ 281474976710656:=by
 have:(16:Nat) ^ j ≤ 16 ^ 12:=Nat.pow_le_pow_right (by omega) h
 have h2:((16 ^ j:Nat):Int) ≤ ((16 ^ 12:Nat):Int):=by exact_mod_cast this
 simpa using h2
theorem X1b {c:List Int} (h:Small c) (s:Nat) {j:Nat} (hj:j ≤ c.length):0 ≤ Q7f c s j ∧ Q7f c s j ≤ 281474976710656:=by
 have:=Y0b h s j hj;have h2:=Z0l (show j ≤ 12 from Nat.le_trans hj h.len)
 omega
end Go.Proofs
namespace Go.Proofs
open Go.RowKit Go.Tw Go.Flow
theorem Z1l (a b:Int) (h0:0 ≤ a) (hb:0 < b):Int.gcd b (a.tmod b) = Int.gcd a b:=by
 obtain ⟨n,rfl⟩:=Int.eq_ofNat_of_zero_le h0;obtain ⟨m,rfl⟩:=Int.eq_ofNat_of_zero_le (Int.le_of_lt hb);show Nat.gcd m (n % m) = Nat.gcd n m;rw [Nat.gcd_comm n m,Nat.gcd_comm m,← Nat.gcd_rec]
theorem Ext.frozen {a b:World} (h:Ext a b) {p:Addr} (hp:p.block < a.heap.size):b.frozen? p = a.frozen? p:=by
 obtain ⟨_,_,_,_,h5⟩:=h;unfold World.frozen?; rw [h5 _ hp]
theorem wrap_in {n:Int} (h1:-9223372036854775808 ≤ n) (h2:n ≤ 9223372036854775807):IntKind.i64.wrap n = n:=by
 simp only [IntKind.wrap,IntKind.bits,IntKind.signed,Bool.true_and,decide_eq_true_eq,ge_iff_le]
 split <;> omega
theorem Q9x (w:World) (cs:Array Value) (e:TypeId) (i:Nat):(w.alloc (.cells cs e)).frozen? ⟨w.heap.size,i,none⟩ = false:=by
 have h:(w.alloc (.cells cs e)).heap[w.heap.size]? = some (.cells cs e):=by show (w.heap.push _)[_]? = _; simp
 unfold World.frozen?; rw [h]; simp
end Go.Proofs
namespace Go.Proofs
open Go.RowKit Go.Tw Go.Flow
theorem _root_.Go.Tw.Q0q.spot {w:World} {base:Nat} {e:TypeId} {v:Value} {l:List Int} (h:Q0q w base e (Value.int .i64) v l) (h0:0 < l.length) :
    ∃ g cap,v = .slice (some ⟨g,0,none⟩) l.length cap ∧ base ≤ g ∧ l.length ≤ cap:=by
 rcases h.2 with ⟨rfl,hn⟩ | ⟨g,cap,cur,hv,hb,hg,hc,_⟩
 · omega
 · exact ⟨g,cap,hv,hb,hc⟩
theorem _root_.Go.Tw.Q0q.at {w:World} {base:Nat} {e:TypeId} {g cap n:Nat} {l:List Int} (h:Q0q w base e (Value.int .i64) (.slice (some ⟨g,0,none⟩) n cap) l) {j:Nat} (hj:j < l.length) :
    w.cell? ⟨g,j,none⟩ = some (.int .i64 (ix l j)) ∧ w.frozen? ⟨g,j,none⟩ = false:=by
 rcases h.2 with ⟨hv,hn⟩ | ⟨g',cap',cur,hv,hb,hg,hc,hm,hs,ht⟩
 · cases hv
 · injection hv with h1 h2 h3
   injection h1 with h1;injection h1 with h1;subst h1;have h1:=congrArg (fun l=>l[j]?) ht;simp only [Nat.mul_one,List.getElem?_take,hj,if_true,List.getElem?_map,List.getElem?_eq_getElem hj,Option.map_some] at h1;refine ⟨?_,?_⟩
   · rw [Q8m hj]; simp only [World.cell?,hg]; simpa using h1
   · unfold World.frozen?; rw [hg]; simp
theorem _root_.Go.Tw.Q0q.set {w:World} {base:Nat} {e:TypeId} {g cap n:Nat} {l:List Int} (h:Q0q w base e (Value.int .i64) (.slice (some ⟨g,0,none⟩) n cap) l) {j:Nat} (x:Int) :
    Q0q (w.setCell ⟨g,j,none⟩ (.int .i64 x)) base e (Value.int .i64) (.slice (some ⟨g,0,none⟩) n cap) (l.set j x):=by
 refine ⟨by simp,?_⟩
 rcases h.2 with ⟨hv,hn⟩ | ⟨g',cap',cur,hv,hb,hg,hc,hm,hs,ht⟩
 · cases hv
 · injection hv with h1 h2 h3
   injection h1 with h1;injection h1 with h1;subst h1 h3;refine .inr ⟨g,cap,cur.setIfInBounds j (.int .i64 x),by rw [List.length_set,h2],hb,?_,by simpa using hc,hm,by simpa using hs,?_⟩
   · simp only [World.setCell,Array.getElem?_modify,if_true,hg,Option.map_some]; rfl
   · rw [Array.toList_setIfInBounds,List.take_set,List.length_set,ht,List.map_set]
def Q6s (c l:List Int) (n:Int) (k:Nat):List Int:=(List.range c.length).map fun (i:Nat)=>if has (l.take k) i then n else ix c i
end Go.Proofs
namespace Go.Proofs
open Go.RowKit Go.Tw Go.Flow
theorem Y9p {W:World} {g:Nat} {x y u0 u1:Value} (h0:W.cell? ⟨g,0,none⟩ = some u0) (h1:W.cell? ⟨g,1,none⟩ = some u1) :
    ((W.setCell ⟨g,0,none⟩ x).setCell ⟨g,1,none⟩ y).cell? ⟨g,0,none⟩ = some x ∧ ((W.setCell ⟨g,0,none⟩ x).setCell ⟨g,1,none⟩ y).cell? ⟨g,1,none⟩ = some y:=by
 refine ⟨Eq.trans (World.cell?_setCell_other _ _ _ _ ?_) (World.cell?_setCell_same _ _ _ h0),World.cell?_setCell_same _ _ _ (Eq.trans (World.cell?_setCell_other _ _ _ _ ?_) h1)⟩
 · intro h; cases h
 · intro h; cases h
theorem _root_.Go.Tw.Ext.Y9p {w W:World} (h:Ext w W) {g:Nat} (hg:w.heap.size ≤ g) (x y:Value):Ext w ((W.setCell ⟨g,0,none⟩ x).setCell ⟨g,1,none⟩ y) :=
 (h.setCell (p:=⟨g,0,none⟩) hg x).setCell (p:=⟨g,1,none⟩) hg y
structure Res (w:World) (g:Nat):Prop where
 c0:w.cell? ⟨g,0,none⟩ = some (.int .i64 0)
 c1:w.cell? ⟨g,1,none⟩ = some (.int .i64 0)
 f0:w.frozen? ⟨g,0,none⟩ = false
 f1:w.frozen? ⟨g,1,none⟩ = false
theorem Res.ext {w w':World} {g:Nat} (h:Res w g) (hx:Ext w w'):Res w' g :=
 have hb:=World.block_lt_of_cell? w _ h.c0
 ⟨hx.cell h.c0,hx.cell h.c1,(hx.frozen (p:=⟨g,0,none⟩) hb).trans h.f0,(hx.frozen (p:=⟨g,1,none⟩) hb).trans h.f1⟩
theorem Res.new (w:World) (T:TypeId):Res (w.alloc (.cells #[.int .i64 0,.int .i64 0] T)) w.heap.size :=
 ⟨Q0z w #[.int .i64 0,.int .i64 0] T 0,Q0z w #[.int .i64 0,.int .i64 0] T 1,Q9x _ _ _ _,Q9x _ _ _ _⟩
theorem Res.new1 (w:World) (o:Obj) (T:TypeId):Res ((w.alloc o).alloc (.cells #[.int .i64 0,.int .i64 0] T)) (w.heap.size + 1):=by
 have h:=Res.new (w.alloc o) T;have e:(w.alloc o).heap.size = w.heap.size + 1:=by show (w.heap.push _).size = _; rw [Array.size_push]
 rwa [e] at h
end Go.Proofs
namespace Go.Flow
open Go.RowKit Go.Tw
theorem eval_put_ne {a:Act} {d:Tmp} {u:Value} {t:Tmp} (h:d ≠ t):(a.put (some d) u).eval (.tmp t) = a.eval (.tmp t):=by
 show (a.tmps.setIfInBounds d u).getD t undef = a.tmps.getD t undef;simp only [Array.getD_eq_getD_getElem?,Array.getElem?_setIfInBounds_ne h]
theorem X0y {a:Act} {u:Value} {x:Operand}:(a.put none u).eval x = a.eval x:=rfl
theorem size_put {a:Act} {d:Option Tmp} {u:Value}:(a.put d u).tmps.size = a.tmps.size:=Q8v a d u
theorem Q0a {a:Act} {u:Value} {t:Tmp} (h:t < a.tmps.size):(a.put (some t) u).eval (.tmp t) = u:=by
 show (a.tmps.setIfInBounds t u).getD t undef = u;simp [Array.getD_eq_getD_getElem?,h]
end Go.Flow
namespace Go.Proofs
open Go.RowKit Go.Tw Go.Flow
def gtV (m:Nat) (q:Int):Value:=.agg #[.int .i64 m,.int .i64 q]
def Q8w (k:ByteArray):Nat:=if k = Q8z then 158 else if k = sOr then 159 else 160
theorem Y9i {k:ByteArray} (h:Q8s k = true) (z:Value):(Q6j k Q4y).getD z = kv (Q8w k):=by
 unfold Q4y Q6j Q8w
 by_cases h1:k = Q8z
 · rw [if_pos (str_eq h1),if_pos h1]; rfl
 · rw [Q5k h1,if_neg (by simp),if_neg h1]
   unfold Q6j
   by_cases h2:k = sOr
   · rw [if_pos (str_eq h2),if_pos h2]; rfl
   · rw [Q5k h2,if_neg (by simp),if_neg h2]
     unfold Q6j;have h3:k = Q5c:=by
      unfold Q8s at h;rw [Q5k h1,Q5k h2] at h;exact Y1q (by simpa using h)
     rw [if_pos (str_eq h3)]; rfl
theorem X6c (f:Nat) (w:World):(Instr.field 184 (.agg #[.func (.func f) #[] #[]]) 0).run Tryz.prog w = .ok (.func (.func f) #[] #[]) w:=by kernel_rfl
theorem Y2i (k:ByteArray) (args:Array Value) (w:World):(callFunc (Q8w k) args).run Tryz.prog w = .ok (.enter (Q8w k) args) w:=by
 unfold Q8w
 split
 · exact enters_of Tryz.func158 (by kernel_rfl) rfl _ _
 · split
   · exact enters_of Tryz.func159 (by kernel_rfl) rfl _ _
   · exact enters_of Tryz.func160 (by kernel_rfl) rfl _ _
theorem Y7v (k:ByteArray) (w:World) (kv v:Value) (n:Int) (l:List Int) (hv:Q0f w v l) :
    Calls Tryz.prog (Q8w k) #[.agg #[kv,.int .i64 n,v]] w fun e w'=>e = .returned (.int .i64 (Q5a k n l.length)) ∧ Ext w w':=by
 unfold Q8w Q5a
 by_cases h1:k = Q8z
 · rw [if_pos h1,if_pos h1]; exact Y9d _ _ _ _ _ hv
 · rw [if_neg h1,if_neg h1]
   by_cases h2:k = sOr
   · rw [if_pos h2,if_pos h2]; exact Y9x _ _ _ _
   · rw [if_neg h2,if_neg h2]; exact Y7i _ _ _ _
theorem Y0n {K:Value → World → Prop} {o:Oper} {a:Act} {w:World} (p x:Operand) (ho:o.op = .store 181 p x) (g:Nat) (hp:a.eval p = .pointer (some ⟨g,0,none⟩)) (m:Nat) (q:Int) (hx:a.eval x = gtV m q) (R:Res w g)
    (h:∀ v w',w' = (w.setCell ⟨g,0,none⟩ (.int .i64 m)).setCell ⟨g,1,none⟩ (.int .i64 q) → K v w'):gives Tryz.prog K ((execOp a.eval o).run Tryz.prog w):=by
 obtain ⟨r0,r1,f0,f1⟩:=R;rw [gtV] at hx;unfold execOp;simp only [ho,hp,hx];go_simp;exact h _ _ rfl
set_option maxRecDepth 100000 in
set_option maxHeartbeats 1000000 in
theorem Y6z (w:World) (k:ByteArray) (iv:Value) (n:Int) (l:List Int) (B b:Nat) (hB:w.cell? ⟨B,0,none⟩ = some (.map (some b))) (hm:Q3m w b Q4y) (hk:Q8s k = true) (hv:Q0f w iv l) (hl:∀ x ∈ l,0 ≤ x ∧ x < 62) :
    Calls Tryz.prog 127 #[.agg #[.string k,.int .i64 n,iv],.pointer (some ⟨B,0,none⟩)] w fun e w'=>e = .returned (gtV (Q1n l) (Q5a k n l.length)) ∧ Ext w w':=by
 have HK:=Lib.hid hk;have HV:=Lib.hid hv;have HL:=Lib.hid hl;have HM:=Lib.hid hm;have hw:=Ext.box w (.cells #[.string k,.int .i64 n,iv] 129);have c0:(w.alloc (.cells #[.string k,.int .i64 n,iv] 129)).cell? ⟨w.heap.size,0,none⟩ = some (.string k):=Q0z w #[.string k,.int .i64 n,iv] 129 0;have c1:(w.alloc (.cells #[.string k,.int .i64 n,iv] 129)).cell? ⟨w.heap.size,1,none⟩ = some (.int .i64 n):=Q0z w #[.string k,.int .i64 n,iv] 129 1;have c2:(w.alloc (.cells #[.string k,.int .i64 n,iv] 129)).cell? ⟨w.heap.size,2,none⟩ = some (iv):=Q0z w #[.string k,.int .i64 n,iv] 129 2;have hx0:=Ext.box (w.alloc (.cells #[.string k,.int .i64 n,iv] 129)) (.cells #[.int .i64 0,.int .i64 0] 181);have R:=Res.new1 w (.cells #[.string k,.int .i64 n,iv] 129) 181;replace c0:=hx0.cell c0;replace c1:=hx0.cell c1;replace c2:=hx0.cell c2;have hxx:=hw.trans hx0;have cB:=hxx.cell hB;clear hk hv hl hm hB;go_enter Tryz.func127,Tryz.ntmps127;go_wp2;obtain ⟨W,hW⟩:∃ W,(w.alloc (.cells #[.string k,.int .i64 n,iv] 129)).alloc (.cells #[.int .i64 0,.int .i64 0] 181) = W:=⟨_,rfl⟩;rw [hW] at c0 c1 c2 cB hxx R ⊢;clear hW hw hx0;have hxd:=hxx.trans (Ext.refl W).drew;refine Flow.region [.plain,.world,.world,.world,.plain,.world,.world,.plain,.world,.world,.plain,.last] [0,1,2,3,4,5,6,7,8,9,10,11] [[],[0],[0,1],[],[],[4],[3,4,5],[3,4,5,6],[],[0,1,2,3,4,5,6,7,8],[0,1,2,3,4,5,6,7,8,9],[0,1,2,3,4,5,6,7,8,9,10]] [11]
  [.is 0 (fun v=>.pointer (some ⟨w.heap.size,2,none⟩)),.is 1 (fun v=>iv),.is 2 (fun v=>.int .i64 (Q1n l:Nat)),.is 3 (fun v=>.map (some b)),.is 4 (fun v=>.pointer (some ⟨w.heap.size,0,none⟩)),.is 5 (fun v=>.string k),.is 6 (fun v=>kv (Q8w k)),.is 7 (fun v=>.func (.func (Q8w k)) #[] #[]),.is 8 (fun v=>.agg #[.string k,.int .i64 n,iv]),.is 9 (fun v=>.int .i64 (Q5a k n l.length)),.is 10 (fun v=>gtV (Q1n l) (Q5a k n l.length)),.none]
  [fun v w1 w'=>w'.cell? ⟨w.heap.size + 1,0,none⟩ = some (.int .i64 (Q1n l:Nat)) ∧ w'.cell? ⟨w.heap.size + 1,1,none⟩ = some (.int .i64 (Q5a k n l.length)) ∧ Below w.heap.size w1 w'] (by kernel_rfl) rfl (by kernel_rfl) ⟨?g0,?g1,?g2,?g3,?g4,?g5,?g6,?g7,?g8,?g9,?g10,?g11,trivial⟩ ?post
 case g0 =>
  intro v w1 hx;have c0:=hx.cell c0;have c1:=hx.cell c1;have c2:=hx.cell c2;have cB:=hx.cell cB;refine ⟨_,fun w=>?_,rfl⟩;go_simp
 case g1 =>
  intro v w1 hx (q0:v 0 = .pointer (some ⟨w.heap.size,2,none⟩));have c0:=hx.cell c0;have c1:=hx.cell c1;have c2:=hx.cell c2;have cB:=hx.cell cB;intro K hK;go_simp;exact hK _ _ (Ext.refl _) rfl
 case g2 =>
  intro v w1 hx (q0:v 0 = .pointer (some ⟨w.heap.size,2,none⟩)) (q1:v 1 = iv);have c0:=hx.cell c0;have c1:=hx.cell c1;have c2:=hx.cell c2;have cB:=hx.cell cB;intro K hK;go_simp;refine Q0e (X1a _ _ _ (HV.out.ext (hxd.trans hx)) HL.out) ?_;rintro e w2 ⟨rfl,rfl⟩;exact ⟨_,rfl,hK _ _ (Ext.refl _) rfl⟩
 case g3 =>
  intro v w1 hx;have c0:=hx.cell c0;have c1:=hx.cell c1;have c2:=hx.cell c2;have cB:=hx.cell cB;intro K hK;go_simp;exact hK _ _ (Ext.refl _) rfl
 case g4 =>
  intro v w1 hx;have c0:=hx.cell c0;have c1:=hx.cell c1;have c2:=hx.cell c2;have cB:=hx.cell cB;refine ⟨_,fun w=>?_,rfl⟩;go_simp
 case g5 =>
  intro v w1 hx (q4:v 4 = .pointer (some ⟨w.heap.size,0,none⟩));have c0:=hx.cell c0;have c1:=hx.cell c1;have c2:=hx.cell c2;have cB:=hx.cell cB;intro K hK;go_simp;exact hK _ _ (Ext.refl _) rfl
 case g6 =>
  intro v w1 hx (q3:v 3 = .map (some b)) (q4:v 4 = .pointer (some ⟨w.heap.size,0,none⟩)) (q5:v 5 = .string k);have c0:=hx.cell c0;have c1:=hx.cell c1;have c2:=hx.cell c2;have cB:=hx.cell cB;have hlk:=Q7s (P:=Tryz.prog) (HM.out.ext (hxd.trans hx)) X8u Z3m (Z5l _) k false;rw [if_neg (by simp),Y9i HK.out] at hlk
  intro K hK;go_simp;exact hK _ _ (Ext.refl _) rfl
 case g7 =>
  intro v w1 hx (q3:v 3 = .map (some b)) (q4:v 4 = .pointer (some ⟨w.heap.size,0,none⟩)) (q5:v 5 = .string k) (q6:v 6 = kv (Q8w k));have c0:=hx.cell c0;have c1:=hx.cell c1;have c2:=hx.cell c2;have cB:=hx.cell cB;unfold kv at q6;have hfk:=X6c (Q8w k);refine ⟨_,fun w=>?_,rfl⟩;go_simp
 case g8 =>
  intro v w1 hx;have c0:=hx.cell c0;have c1:=hx.cell c1;have c2:=hx.cell c2;have cB:=hx.cell cB;intro K hK;go_simp;exact hK _ _ (Ext.refl _) rfl
 case g9 =>
  intro v w1 hx (q0:v 0 = .pointer (some ⟨w.heap.size,2,none⟩)) (q1:v 1 = iv) (q2:v 2 = .int .i64 (Q1n l:Nat)) (q3:v 3 = .map (some b)) (q4:v 4 = .pointer (some ⟨w.heap.size,0,none⟩)) (q5:v 5 = .string k) (q6:v 6 = kv (Q8w k)) (q7:v 7 = .func (.func (Q8w k)) #[] #[]) (q8:v 8 = .agg #[.string k,.int .i64 n,iv]);have c0:=hx.cell c0;have c1:=hx.cell c1;have c2:=hx.cell c2;have cB:=hx.cell cB;have hen:=Y2i k;intro K hK;go_simp;refine Q0e (Y7v k _ _ _ _ l (HV.out.ext (hxd.trans hx))) ?_;rintro e w2 ⟨rfl,hx2⟩;exact ⟨_,rfl,hK _ _ hx2 rfl⟩
 case g10 =>
  intro v w1 hx (q0:v 0 = .pointer (some ⟨w.heap.size,2,none⟩)) (q1:v 1 = iv) (q2:v 2 = .int .i64 (Q1n l:Nat)) (q3:v 3 = .map (some b)) (q4:v 4 = .pointer (some ⟨w.heap.size,0,none⟩)) (q5:v 5 = .string k) (q6:v 6 = kv (Q8w k)) (q7:v 7 = .func (.func (Q8w k)) #[] #[]) (q8:v 8 = .agg #[.string k,.int .i64 n,iv]) (q9:v 9 = .int .i64 (Q5a k n l.length));have c0:=hx.cell c0;have c1:=hx.cell c1;have c2:=hx.cell c2;have cB:=hx.cell cB;refine ⟨_,fun w=>?_,rfl⟩;go_simp
 case g11 =>
  intro v w1 hx (q0:v 0 = .pointer (some ⟨w.heap.size,2,none⟩)) (q1:v 1 = iv) (q2:v 2 = .int .i64 (Q1n l:Nat)) (q3:v 3 = .map (some b)) (q4:v 4 = .pointer (some ⟨w.heap.size,0,none⟩)) (q5:v 5 = .string k) (q6:v 6 = kv (Q8w k)) (q7:v 7 = .func (.func (Q8w k)) #[] #[]) (q8:v 8 = .agg #[.string k,.int .i64 n,iv]) (q9:v 9 = .int .i64 (Q5a k n l.length)) (q10:v 10 = gtV (Q1n l) (Q5a k n l.length));intro wl hT;obtain rfl:wl = w1:=hT;intro bb hbb;have c0:=hx.cell c0;have c1:=hx.cell c1;have c2:=hx.cell c2;have cB:=hx.cell cB;intro K hK;have o1:bb.eval (.tmp 3) = .pointer (some ⟨w.heap.size + 1,0,none⟩):=by rw [hbb]; dsimp only; simp (discharger:=decide) only [eval_put_ne]; rfl
  have o2:bb.eval (.tmp 14) = gtV (Q1n l) (Q5a k n l.length):=by rw [hbb]; dsimp only; rw [Q0a (by simp only [size_put]; exact (by decide:14 < 15))]; exact q10
  have hxx2:=(Ext.refl W).drew.trans hx;have R2:=R.ext hxx2;obtain ⟨e0,e1⟩:=Y9p (x:=.int .i64 (Q1n l:Nat)) (y:=.int .i64 (Q5a k n l.length)) R2.c0 R2.c1;clear hbb;refine Y0n _ _ rfl (w.heap.size + 1) o1 (Q1n l) (Q5a k n l.length) o2 R2 (fun v' w' hw'=>?_);subst hw';exact hK _ _ ⟨e0,e1,((Below.refl w.heap.size wl).setCell (p:=⟨w.heap.size + 1,0,none⟩) (by show w.heap.size ≤ w.heap.size + 1; omega) _).setCell (p:=⟨w.heap.size + 1,1,none⟩) (by show w.heap.size ≤ w.heap.size + 1; omega) _⟩
 case post =>
  intro v w1 hx (q0:v 0 = .pointer (some ⟨w.heap.size,2,none⟩)) (q1:v 1 = iv) (q2:v 2 = .int .i64 (Q1n l:Nat)) (q3:v 3 = .map (some b)) (q4:v 4 = .pointer (some ⟨w.heap.size,0,none⟩)) (q5:v 5 = .string k) (q6:v 6 = kv (Q8w k)) (q7:v 7 = .func (.func (Q8w k)) #[] #[]) (q8:v 8 = .agg #[.string k,.int .i64 n,iv]) (q9:v 9 = .int .i64 (Q5a k n l.length)) (q10:v 10 = gtV (Q1n l) (Q5a k n l.length));intro w2 hE;replace hE:(fun v w1 w'=>w'.cell? ⟨w.heap.size + 1,0,none⟩ = some (.int .i64 (Q1n l:Nat)) ∧ w'.cell? ⟨w.heap.size + 1,1,none⟩ = some (.int .i64 (Q5a k n l.length)) ∧ Below w.heap.size w1 w') v w1 w2:=hE;simp only [Flow.acts,Act.put];go_simp;obtain ⟨e0,e1,e2⟩:=hE;go_wp2;refine bodyPost_ret (v:=gtV (Q1n l) (Q5a k n l.length)) (by simp [results,Tryz.results127,go_sem,e0,e1,gtV]) rfl ?_
  exact ⟨rfl,Below.trans (hxd.trans hx) e2⟩
end Go.Proofs
namespace Go.Tw
open Go.RowKit Go.Flow
def Q1z {α:Type} (w:World) (base:Nat) (e:TypeId) (k:Nat) (enc:α → List Value) (v:Value) (l:List α):Prop:=w.ownsRow base e k v l.length (l.flatMap enc)
theorem Q1z.nil {α:Type} (w:World) (base:Nat) (e:TypeId) (k:Nat) (enc:α → List Value):Q1z w base e k enc (.slice none 0 0) []:=World.ownsRow_nil w base e k
theorem Q1z.below {α:Type} {w w':World} {base:Nat} {e:TypeId} {k:Nat} {enc:α → List Value} {v:Value} {l:List α} (h:Q1z w base e k enc v l) (hx:Ext w w'):Q1z w' base e k enc v l:=by
 obtain ⟨h1,h2⟩:=h;refine ⟨h1,?_⟩
 rcases h2 with h2 | ⟨g,cap,cur,hv,hb,hg,r⟩
 · exact .inl h2
 · refine .inr ⟨g,cap,cur,hv,hb,?_,r⟩
   rw [Below.block hx g (Array.getElem?_eq_some_iff.1 hg).1]; exact hg
theorem Q1z.snoc {α:Type} {w:World} {base:Nat} {e:TypeId} {k:Nat} {enc:α → List Value} {v:Value} {l:List α} {x:α} (h:w.ownsRow base e k v (l.length + 1) (l.flatMap enc ++ enc x)):Q1z w base e k enc v (l ++ [x]):=by
 unfold Q1z; simpa using h
theorem Q4r {α:Type} {enc:α → List Value} {k:Nat} (hk:∀ x,(enc x).length = k):∀ l:List α,(l.flatMap enc).length = l.length * k
 | []=>by simp
 | x :: l=>by rw [List.flatMap_cons,List.length_append,hk,Q4r hk l,List.length_cons,Nat.add_mul]; omega
theorem flat_get {α:Type} {enc:α → List Value} {k:Nat} (hk:∀ x,(enc x).length = k):∀ (l:List α) (j i:Nat) (hj:j < l.length),i < k → (l.flatMap enc)[j * k + i]? = (enc l[j])[i]?
 | x :: l,0,i,_,hi=>by
   rw [List.flatMap_cons,Nat.zero_mul,Nat.zero_add,List.getElem?_append_left (by rw [hk]; exact hi)]; rfl
 | x :: l,j + 1,i,hj,hi=>by
   have hj':j < l.length:=by simpa using hj
   rw [List.flatMap_cons,List.getElem?_append_right (by rw [hk,Nat.add_mul]; omega),hk,show (j + 1) * k + i - k = j * k + i from by rw [Nat.add_mul]; omega,flat_get hk l j i hj' hi]
   rfl
theorem Q1z.rows {α:Type} {w:World} {base:Nat} {e:TypeId} {k:Nat} {enc:α → List Value} {v:Value} {l:List α} {R:World → (Nat → Value) → α → Prop} (h:Q1z w base e k enc v l) (hl:l.length ≤ 17592186043904)
    (hk:∀ x,(enc x).length = k) (hR:∀ x ∈ l,R w (fun i=>((enc x)[i]?).getD undef) x) (hloc:∀ c c' x,(∀ i,i < k → c i = c' i) → R w c x → R w c' x):Rows k R w v l:=by
 refine ⟨fun j=>((l.flatMap enc)[j]?).getD undef,?_,fun j hj=>hloc _ _ _ (fun i hi=>?_) (hR _ (List.getElem_mem hj))⟩
 · obtain ⟨_,h2⟩:=h
   rcases h2 with ⟨rfl,h0⟩ | ⟨g,cap,cur,rfl,_,hg,hcap,_,_,htake⟩
   · exact ⟨none,0,by rw [h0],hl,by omega,fun j hj=>by rw [h0,Nat.zero_mul] at hj; omega⟩
   · refine ⟨some ⟨g,0,none⟩,cap,rfl,hl,hcap,fun j hj=>⟨g,0,rfl,?_⟩⟩
     rw [Nat.zero_add];have h1:=congrArg (fun l=>l[j]?) htake;simp only [List.getElem?_take,hj,if_true] at h1;have hlt:j < (l.flatMap enc).length:=by rw [Q4r hk]; exact hj
     rw [List.getElem?_eq_getElem hlt] at h1;simp only [World.cell?,hg,List.getElem?_eq_getElem hlt,Option.getD_some]
     simpa using h1
 · show ((enc l[j])[i]?).getD undef = ((l.flatMap enc)[j * k + i]?).getD undef
   rw [flat_get hk l j i hj hi]
theorem Z2i (w:World) (xs:List Value) (e:TypeId):∀ j u,xs[j]? = some u → (w.alloc (.cells xs.toArray e)).cell? ((⟨w.heap.size,0,none⟩:Addr).add j) = some u:=by
 intro j u h;rw [addr_add,Nat.zero_add,World.cell?_alloc_at _ _ _ _ rfl]
 simpa using h
def Z6g (x:Nat × Int):List Value:=[.int .i64 (x.1:Nat),.int .i64 x.2]
theorem Q1z.gts {w:World} {base:Nat} {e:TypeId} {v:Value} {l:List (Nat × Int)} {R:World → (Nat → Value) → Nat × Int → Prop} (hR:∀ w c x,R w c x ↔ c 0 = .int .i64 (x.1:Nat) ∧ c 1 = .int .i64 x.2) (h:Q1z w base e 2 Z6g v l) (hl:l.length ≤ 17592186043904):Rows 2 R w v l :=
 h.rows hl (fun _=>rfl) (fun x _=>(hR _ _ _).2 ⟨rfl,rfl⟩) (fun c c' x hc h=>(hR _ _ _).2 (by have:=(hR _ _ _).1 h; rw [← hc 0 (by omega),← hc 1 (by omega)]; exact this))
end Go.Tw
namespace Go.Proofs
open Go.RowKit Go.Tw Go.Flow
theorem Tryz.Z4r:(Tryz.prog.info? 181).map (fun i=>(i.zero,i.size,i.bytes)) = some (some (.agg #[.int .i64 0,.int .i64 0]),2,16):=by kernel_rfl
theorem _root_.Go.Tw.Valid.kind {t:Tree} (h:Valid t) {k:Nat} (hk:k < t.gates.length):Q8s (Q2c t.gates k) = true:=by
 have:=h.gate k hk;unfold Tree.Q1u Q8n at this;rw [Q1k] at this;have:=this (if Q8s (Q2c t.gates k) = true then 0 else 13) (by simp)
 cases hb:Q8s (Q2c t.gates k) with
 | true=>rfl
 | false=>rw [hb] at this; simp at this
def X8p (t:Tree) (k:Nat):List (Nat × Int):=(List.range k).map t.gt
theorem Y6i (t:Tree) (k:Nat):X8p t (k + 1) = X8p t k ++ [t.gt k]:=by unfold X8p; rw [List.range_succ,List.map_append]; rfl
theorem X9e (t:Tree) (k:Nat):(X8p t k).length = k:=by simp [X8p]
set_option maxRecDepth 100000 in
set_option maxHeartbeats 1000000 in
theorem Y1u (w:World) (gv:Value) (t:Tree) (B b:Nat) (hv:Valid t) (hg:Q4m w gv t.gates) (hB:w.cell? ⟨B,0,none⟩ = some (.map (some b))) (hm:Q3m w b Q4y) :
    Calls Tryz.prog 126 #[gv,.func (.func 127) #[] #[.pointer (some ⟨B,0,none⟩)]] w fun e w'=>∃ u,e = .returned u ∧ Q1z w' w.heap.size 181 2 Z6g u t.gts ∧ Ext w w':=by
 obtain ⟨i0,hi,hz0,hz1,hz2⟩:=info_parts Tryz.Z4r;obtain ⟨A,cap,rfl,hl,hcap,hc⟩:=hg.opened;have HV:=Lib.hid hv;have HM:=Lib.hid hm;have HB:=Lib.hid hB;have HC:=Lib.hid hc;have hng:=hv.ng';clear hg hv hm hB hc;go_enter Tryz.func126,Tryz.ntmps126;go_wp2
 go_loopw [5,10] (fun o i wr=>∃ (k:Nat),k ≤ t.gates.length ∧ i = .int .i64 k ∧ Q1z wr w.heap.size 181 2 Z6g o (X8p t k) ∧ Ext w wr) (fun _ i _=>t.gates.length - (intOf i).toNat)
 case atStart=>exact ⟨0,Nat.zero_le _,rfl,Q1z.nil _ _ _ _ _,Ext.refl _⟩
 case round =>
  obtain ⟨k,hk,rfl,hown,hx⟩:=hrel
  by_cases hlt:k < t.gates.length
  · obtain ⟨bb,off,m,rfl,hb,e0,e1,e2,hM,hks⟩:=HC.out k hlt
    replace e0:=hx.cell e0;replace e1:=hx.cell e1;replace e2:=hx.cell e2;have HIN:=Lib.hid (HV.out.X3u hlt).2;have HK:=Lib.hid (HV.out.kind hlt);have HGT:Hid (t.gt k = (Q1n (Q0l t.gates k),Q5a (Q2c t.gates k) (Q2x t.gates k) (Q0l t.gates k).length)):=by exact (rfl:t.gt k = _)
    obtain ⟨A3,cap3,rfl,_,_,_⟩:=hM.opened;have HIM:=Lib.hid (hM.ext hx);have hlen:=X9e t k;have hx2:=Ext.box wr (.cells #[.string (Q2c t.gates k),.int .i64 (Q2x t.gates k),.slice A3 (Q0l t.gates k).length cap3] 129);have hown2:=hown.below hx2;have hxx:=hx.trans hx2;have HX2:=Lib.hid hx2;clear hM hown hx2 hb;generalize hln:(X8p t k).length = ln at hlen;go_wp2_with fail;refine (Y6z _ _ _ _ (Q0l t.gates k) B b (hxx.cell HB.out) (HM.out.ext hxx) HK.out (HIM.out.ext HX2.out) (fun x hx=>by have:=HIN.out x hx; omega)).mono ?_
    rintro e w1 ⟨rfl,hx1⟩;rw [gtV];have hown3:=hown2.below hx1;have hx3:=hxx.trans hx1;obtain ⟨M,hMe⟩:∃ M,Q1n (Q0l t.gates k) = M:=⟨_,rfl⟩;obtain ⟨q,hq⟩:∃ q,Q5a (Q2c t.gates k) (Q2x t.gates k) (Q0l t.gates k).length = q:=⟨_,rfl⟩;rw [hMe,hq] at HGT ⊢;unfold Q1z at hown3;rw [hln] at hown3;clear hMe hq hown2 hx1 hxx HX2 HIM HIN e0 e1 e2;go_wp2_with (at_builtin; refine wpList_append_own _ rfl _ _ 119 rfl (w.heap.size) 181 i0 (.agg #[.int .i64 0,.int .i64 0]) 2 16 Tryz.underlying119 hi hz0 hz1 hz2 rfl (by decide) _ _ _ rfl (World.ownsRow.alloc hown3 _) ⟨w1.heap.size,0,none⟩ 1 1 [.int .i64 (M:Nat),.int .i64 q] rfl rfl ?_ ?_ ?_ ?_ ?_ ?_; exact Z2i _ _ _; (focus (simp [Value.oneCell'])); (focus (unfold maxLen; omega)); (focus omega); (focus (have:=hx3.size; simp at this ⊢; omega)); intro v' w1 hown' hgrow _)
    have hx':=Q5h hx3 hown3 (Nat.le_refl _) hgrow;go_wp2;go_roundw
    case rel=>exact ⟨k + 1,by omega,by go_num,by rw [Y6i,HGT.out]; rw [← hln] at hown'; exact Q1z.snoc hown',hx'⟩
    case measure=>simp [intOf]; omega
  · have e:t.gts = X8p t k:=by unfold Tree.gts X8p; rw [show k = t.gates.length from by omega]
    have HE:=Lib.hid e;have hlen:=X9e t k;have HO:=Lib.hid hown;clear e hown;go_wp2;go_ret;exact ⟨_,rfl,by rw [HE.out]; exact HO.out,hx⟩
end Go.Proofs
