/- The contract of the reference's Lowest. Contracts: chances with others in their place, probabilities. Contracts: probabilities of the reference. The last operations of a region: the frame under a name, its slots looked up one by one (to reckon the frame out runs away). Contract: a gate's mask and need. Slices of structs that a call makes and appends to, read as lists. Contract: the gates' masks and needs. A block of cells under one name; the block in which nodes are made. -/
import Derived.Test.YtghcnlbkghaaeaaDoorPv05
import Derived.Test.YtghcnlbkghaaeaaDoorPv03
import Derived.Shelf.Abstract
import Derived.Test.YtghcnlbkghaaeaaDoorPv04
set_option maxRecDepth 1000000
set_option maxHeartbeats 64000000
set_option linter.unusedVariables false
set_option linter.unusedSimpArgs false
set_option linter.constructorNameAsVariable false
namespace Go.Proofs
open Go.RowKit Go.Tw Go.Flow
theorem X3o (a b:Int) (h0:0 <= a) (hb:0 < b):Int.gcd b (a.tmod b) = Int.gcd a b:=by
 obtain ⟨n,rfl⟩:=Int.eq_ofNat_of_zero_le h0;obtain ⟨m,rfl⟩:=Int.eq_ofNat_of_zero_le (Int.le_of_lt hb);show Nat.gcd m (n % m) = Nat.gcd n m;rw [Nat.gcd_comm n m,Nat.gcd_comm m,<- Nat.gcd_rec]
theorem Ext.frozen {a b:World} (h:Ext a b) {p:Addr} (hp:p.block < a.heap.size):b.frozen? p = a.frozen? p:=by
 obtain ⟨_,_,_,_,h5⟩:=h;unfold World.frozen?; rw [h5 _ hp]
theorem wrap_in {n:Int} (h1:-9223372036854775808 <= n) (h2:n <= 9223372036854775807):IntKind.i64.wrap n = n:=by
 simp only [IntKind.wrap,IntKind.bits,IntKind.signed,Bool.true_and,decide_eq_true_eq,ge_iff_le]
 split <;> omega
theorem Q2f (w:World) (cs:Array Value) (e:TypeId) (i:Nat):(w.alloc (.cells cs e)).frozen? ⟨w.heap.size,i,none⟩ = false:=by
 have h:(w.alloc (.cells cs e)).heap[w.heap.size]? = some (.cells cs e):=by show (w.heap.push _)[_]? = _; simp
 unfold World.frozen?; rw [h]; simp
theorem X5t (w:World) (a b:Int) (ha:0 <= a) (ha2:a <= 4611686018427387904) (hb:1 <= b) (hb2:b <= 4611686018427387904) :
    Calls Tryd.prog 24 #[.int .i64 a,.int .i64 b] w fun e w'=>e = .returned (.agg #[.int .i64 (lowest a b).num,.int .i64 (lowest a b).den]) /\ Ext w w':=by
 have hw:=Ext.box w (.cells #[.int .i64 0,.int .i64 0] 74);have c0:=Q0d w #[.int .i64 0,.int .i64 0] 74 0;have c1:=Q0d w #[.int .i64 0,.int .i64 0] 74 1;have f0:=Q2f w #[.int .i64 0,.int .i64 0] 74 0;have f1:=Q2f w #[.int .i64 0,.int .i64 0] 74 1;have hsW:w.heap.size < (w.alloc (.cells #[.int .i64 0,.int .i64 0] 74)).heap.size:=by show _ < (w.heap.push _).size; rw [Array.size_push]; omega
 have n1:¬ b < 0:=by omega
 go_enter Tryd.func24,Tryd.ntmps24;go_wp2;obtain ⟨W,hW⟩:∃ W,w.alloc (.cells #[.int .i64 0,.int .i64 0] 74) = W:=⟨_,rfl⟩;rw [hW] at c0 c1 f0 f1 hsW hw ⊢;simp only [Go.Tw.gA,Go.Tw.gB,Go.Tw.gC] at c0 c1;clear hW
 go_loopw [5,6] (fun x y wr=>∃ (p q:Int),x = .int .i64 p /\ y = .int .i64 q /\ 0 <= p /\ 0 <= q /\ p <= 4611686018427387904 /\ q <= 4611686018427387904 /\ (0 < p ∨ 0 < q) /\ Int.gcd p q = Int.gcd a b /\ Ext W wr) (fun _ y _=>(intOf y).toNat)
 case atStart=>exact ⟨a,b,by first | rfl | rw [show max a (-a) = a by omega],by first | rfl | rw [show max b (-b) = b by omega],ha,by omega,ha2,hb2,by omega,rfl,Ext.refl _⟩
 case round =>
  obtain ⟨p,q,rfl,rfl,hp,hq,hp2,hq2,hpq,hg,hx0⟩:=hrel
  by_cases hz:q = 0
  . subst hz
    have hpg:p = (Int.gcd a b:Int):=by rw [<- hg,Int.gcd_zero]; omega
    have hdz:¬ p = 0:=by omega
    replace c0:=hx0.cell c0;replace c1:=hx0.cell c1;have HPG:=Lib.hid hpg;clear hg hpg;have hq1:a / p <= a:=Int.ediv_le_self _ ha;have hq2:b / p <= b:=Int.ediv_le_self _ (by omega)
    have hq3:0 <= a / p:=Int.ediv_nonneg ha hp;have hq4:0 <= b / p:=Int.ediv_nonneg (by omega) hp
    have hq5:a.tdiv p = a / p:=Int.tdiv_eq_ediv_of_nonneg ha;have hq6:b.tdiv p = b / p:=Int.tdiv_eq_ediv_of_nonneg (by omega)
    have hq7:IntKind.i64.wrap (a / p) = a / p:=wrap_in (by omega) (by omega)
    have hq8:IntKind.i64.wrap (b / p) = b / p:=wrap_in (by omega) (by omega)
    have hwr:=Nat.lt_of_lt_of_le hsW hx0.size;replace f0:=(hx0.frozen hsW).trans f0;replace f1:=(hx0.frozen hsW).trans f1;go_wp2;refine Flow.region [.p,.p,.p,.p,.p,.p,.p,.last] [0,1,2,3,4,5,6,7] [[],[],[0,1],[],[],[3,4],[0,1,2,3,4,5],[0,1,2,3,4,5,6]] [7]
     [.c 0 (.int .i64 a),.c 1 (.int .i64 p),.c 2 (.int .i64 (a / p)),.c 3 (.int .i64 b),.c 4 (.int .i64 p),.c 5 (.int .i64 (b / p)),.c 6 (.agg #[.int .i64 (a / p),.int .i64 (b / p)]),.none]
     [fun v w1 w'=>w'.cell? ⟨w.heap.size,0,none⟩ = some (.int .i64 (a / p)) /\ w'.cell? ⟨w.heap.size,1,none⟩ = some (.int .i64 (b / p)) /\ Below w.heap.size w1 w'] (by kernel_rfl) rfl (by kernel_rfl) ⟨?g0,?g1,?g2,?g3,?g4,?g5,?g6,?g7,trivial⟩ ?post
    case g0 | g1 | g3 | g4=>
     intro v w1 hx;refine ⟨_,fun w=>?_,rfl⟩;go_simp
    case g2 | g5 | g6=>
     intro v w1 hx;(repeat intro (zq:v _ = _));refine ⟨_,fun w=>?_,rfl⟩;go_simp
    case g7=>
     intro v w1 hx;(repeat intro (zq:v _ = _));intro wl hT;obtain rfl:wl = w1:=hT;intro bb hbb;subst hbb;have c0:=hx.cell c0;have c1:=hx.cell c1;intro K hK;have g0:=(hx.frozen (p:=⟨w.heap.size,0,none⟩) hwr).trans f0;have g1:=(hx.frozen (p:=⟨w.heap.size,1,none⟩) hwr).trans f1;go_simp;refine hK _ _ ⟨?_,?_,((Below.refl w.heap.size wl).setCell (p:=⟨w.heap.size,0,none⟩) (Nat.le_refl _) _).setCell (p:=⟨w.heap.size,1,none⟩) (Nat.le_refl _) _⟩
     . refine Eq.trans (World.cell?_setCell_other _ _ _ _ ?_) (World.cell?_setCell_same _ _ _ c0); intro h; cases h
     . refine World.cell?_setCell_same _ _ _ (Eq.trans (World.cell?_setCell_other _ _ _ _ ?_) c1); intro h; cases h
    case post =>
     intro v w1 hx;(iterate 7 intro (zq:v _ = _));intro w2 hE;replace hE:(fun v w1 w'=>w'.cell? ⟨w.heap.size,0,none⟩ = some (.int .i64 (a / p)) /\ w'.cell? ⟨w.heap.size,1,none⟩ = some (.int .i64 (b / p)) /\ Below w.heap.size w1 w') v w1 w2:=hE;simp only [Flow.acts,Act.put];go_simp;obtain ⟨e0,e1,e2⟩:=hE
     apply_assumption
     go_wp2;refine bodyPost_ret (v:=.agg #[.int .i64 (a / p),.int .i64 (b / p)]) (by simp [results,Tryd.results24,go_sem,e0,e1]) rfl ?_
     exact ⟨by rw [HPG.out]; rfl,Below.trans ((hw.trans hx0.drew).trans hx) e2⟩
  . have hq0:0 < q:=by omega
    have hst:=X3o p q hp hq0;have htm:p % q < q:=Int.emod_lt_of_pos p hq0;have htn:=Int.emod_nonneg p (show q ≠ 0 by omega)
    rw [Int.tmod_eq_emod_of_nonneg hp] at hst;go_wp2
    go_quiet (fail)
    all_goals go_wp2
    go_roundw
    case rel=>exact ⟨q,p % q,rfl,by go_num,by omega,htn,hq2,by omega,Or.inl hq0,by rw [hst,hg],hx0.drewN _⟩
    case measure=>exact (Int.toNat_lt_toNat hq0).2 htm
end Go.Proofs
namespace Go.Proofs
open Go.RowKit Go.Tw Go.Flow
theorem _root_.Go.Tw.Q0f.at {w:World} {base:Nat} {e:TypeId} {g cap n:Nat} {l:List Int} (h:Q0f w base e (Value.int .i64) (.slice (some ⟨g,0,none⟩) n cap) l) {j:Nat} (hj:j < l.length) :
    w.cell? ⟨g,j,none⟩ = some (.int .i64 (ix l j)) /\ w.frozen? ⟨g,j,none⟩ = false:=by
 rcases h.2 with ⟨hv,hn⟩ | ⟨g',cap',cur,hv,hb,hg,hc,hm,hs,ht⟩
 . cases hv
 . injection hv with h1 h2 h3
   injection h1 with h1;injection h1 with h1;subst h1;have h1:=congrArg (fun l=>l[j]?) ht;simp only [Nat.mul_one,List.getElem?_take,hj,if_true,List.getElem?_map,List.getElem?_eq_getElem hj,Option.map_some] at h1;refine ⟨?_,?_⟩
   . rw [ix_eq hj]; simp only [World.cell?,hg]; simpa using h1
   . unfold World.frozen?; rw [hg]; simp
theorem _root_.Go.Tw.Q0f.set {w:World} {base:Nat} {e:TypeId} {g cap n:Nat} {l:List Int} (h:Q0f w base e (Value.int .i64) (.slice (some ⟨g,0,none⟩) n cap) l) {j:Nat} (x:Int) :
    Q0f (w.setCell ⟨g,j,none⟩ (.int .i64 x)) base e (Value.int .i64) (.slice (some ⟨g,0,none⟩) n cap) (l.set j x):=by
 refine ⟨by simp,?_⟩
 rcases h.2 with ⟨hv,hn⟩ | ⟨g',cap',cur,hv,hb,hg,hc,hm,hs,ht⟩
 . cases hv
 . injection hv with h1 h2 h3
   injection h1 with h1;injection h1 with h1;subst h1 h3;refine .inr ⟨g,cap,cur.setIfInBounds j (.int .i64 x),by rw [List.length_set,h2],hb,?_,by simpa using hc,hm,by simpa using hs,?_⟩
   . simp only [World.setCell,Array.getElem?_modify,if_true,hg,Option.map_some]; rfl
   . rw [Array.toList_setIfInBounds,List.take_set,List.length_set,ht,List.map_set]
end Go.Proofs
namespace Go.Proofs
open Go.RowKit Go.Tw Go.Flow
theorem X7p {W:World} {g:Nat} {x y u0 u1:Value} (h0:W.cell? ⟨g,0,none⟩ = some u0) (h1:W.cell? ⟨g,1,none⟩ = some u1) :
    ((W.setCell ⟨g,0,none⟩ x).setCell ⟨g,1,none⟩ y).cell? ⟨g,0,none⟩ = some x /\ ((W.setCell ⟨g,0,none⟩ x).setCell ⟨g,1,none⟩ y).cell? ⟨g,1,none⟩ = some y:=by
 refine ⟨Eq.trans (World.cell?_setCell_other _ _ _ _ ?_) (World.cell?_setCell_same _ _ _ h0),World.cell?_setCell_same _ _ _ (Eq.trans (World.cell?_setCell_other _ _ _ _ ?_) h1)⟩
 . intro h; cases h
 . intro h; cases h
theorem _root_.Go.Tw.Ext.X7p {w W:World} (h:Ext w W) {g:Nat} (hg:w.heap.size <= g) (x y:Value):Ext w ((W.setCell ⟨g,0,none⟩ x).setCell ⟨g,1,none⟩ y) :=
 (h.setCell (p:=⟨g,0,none⟩) hg x).setCell (p:=⟨g,1,none⟩) hg y
structure Res (w:World) (g:Nat):Prop where
 c0:w.cell? ⟨g,0,none⟩ = some (.int .i64 0)
 c1:w.cell? ⟨g,1,none⟩ = some (.int .i64 0)
 f0:w.frozen? ⟨g,0,none⟩ = false
 f1:w.frozen? ⟨g,1,none⟩ = false
theorem Res.ext {w w':World} {g:Nat} (h:Res w g) (hx:Ext w w'):Res w' g :=
 have hb:=World.block_lt_of_cell? w _ h.c0
 ⟨hx.cell h.c0,hx.cell h.c1,(hx.frozen (p:=⟨g,0,none⟩) hb).trans h.f0,(hx.frozen (p:=⟨g,1,none⟩) hb).trans h.f1⟩
theorem Res.new (w:World) (T:TypeId):Res (w.alloc (.cells #[.int .i64 0,.int .i64 0] T)) w.heap.size :=
 ⟨Q0d w #[.int .i64 0,.int .i64 0] T 0,Q0d w #[.int .i64 0,.int .i64 0] T 1,Q2f _ _ _ _,Q2f _ _ _ _⟩
theorem Res.new1 (w:World) (o:Obj) (T:TypeId):Res ((w.alloc o).alloc (.cells #[.int .i64 0,.int .i64 0] T)) (w.heap.size + 1):=by
 have h:=Res.new (w.alloc o) T;have e:(w.alloc o).heap.size = w.heap.size + 1:=by show (w.heap.push _).size = _; rw [Array.size_push]
 rwa [e] at h
end Go.Proofs
namespace Go.Flow
open Go.RowKit Go.Tw
theorem eval_put_ne {a:Act} {d:Tmp} {u:Value} {t:Tmp} (h:d ≠ t):(a.put (some d) u).eval (.tmp t) = a.eval (.tmp t):=by
 show (a.tmps.setIfInBounds d u).getD t undef = a.tmps.getD t undef;simp only [Array.getD_eq_getD_getElem?,Array.getElem?_setIfInBounds_ne h]
theorem size_put {a:Act} {d:Option Tmp} {u:Value}:(a.put d u).tmps.size = a.tmps.size:=Q3c a d u
theorem Q0a {a:Act} {u:Value} {t:Tmp} (h:t < a.tmps.size):(a.put (some t) u).eval (.tmp t) = u:=by
 show (a.tmps.setIfInBounds t u).getD t undef = u;simp [Array.getD_eq_getD_getElem?,h]
end Go.Flow
namespace Go.Proofs
open Go.RowKit Go.Tw Go.Flow
def gtV (m:Nat) (q:Int):Value:=.agg #[.int .i64 m,.int .i64 q]
def Q8c (k:ByteArray):Nat:=if k = sAnd then 122 else if k = sOr then 123 else 124
theorem X7i {k:ByteArray} (h:kindB k = true) (z:Value):(Q2c k Q2h).getD z = kv (Q8c k):=by
 unfold Q2h Q2c Q8c
 by_cases h1:k = sAnd
 . rw [if_pos (str_eq h1),if_pos h1]; rfl
 . rw [str_ne h1,if_neg (by simp),if_neg h1]
   unfold Q2c
   by_cases h2:k = sOr
   . rw [if_pos (str_eq h2),if_pos h2]; rfl
   . rw [str_ne h2,if_neg (by simp),if_neg h2]
     unfold Q2c;have h3:k = sVote:=by
      unfold kindB at h;rw [str_ne h1,str_ne h2] at h;exact X3l (by simpa using h)
     rw [if_pos (str_eq h3)]; rfl
theorem Q8e (f:Nat) (w:World):(Instr.field 174 (.agg #[.func (.func f) #[] #[]]) 0).run Tryd.prog w = .ok (.func (.func f) #[] #[]) w:=by kernel_rfl
theorem X2g (k:ByteArray) (args:Array Value) (w:World):(callFunc (Q8c k) args).run Tryd.prog w = .ok (.enter (Q8c k) args) w:=by
 unfold Q8c
 split
 . exact enters_of Tryd.func122 (by kernel_rfl) rfl _ _
 . split
   . exact enters_of Tryd.func123 (by kernel_rfl) rfl _ _
   . exact enters_of Tryd.func124 (by kernel_rfl) rfl _ _
theorem X6m (k:ByteArray) (w:World) (kv v:Value) (n:Int) (l:List Int) (hv:IsInts w v l) :
    Calls Tryd.prog (Q8c k) #[.agg #[kv,.int .i64 n,v]] w fun e w'=>e = .returned (.int .i64 (needOf k n l.length)) /\ Ext w w':=by
 unfold Q8c needOf
 by_cases h1:k = sAnd
 . rw [if_pos h1,if_pos h1]; exact X8a _ _ _ _ _ hv
 . rw [if_neg h1,if_neg h1]
   by_cases h2:k = sOr
   . rw [if_pos h2,if_pos h2]; exact X7t _ _ _ _
   . rw [if_neg h2,if_neg h2]; exact X6t _ _ _ _
theorem X0h {K:Value -> World -> Prop} {o:Oper} {a:Act} {w:World} (p x:Operand) (ho:o.op = .store 171 p x) (g:Nat) (hp:a.eval p = .pointer (some ⟨g,0,none⟩)) (m:Nat) (q:Int) (hx:a.eval x = gtV m q) (R:Res w g)
    (h:∀ v w',w' = (w.setCell ⟨g,0,none⟩ (.int .i64 m)).setCell ⟨g,1,none⟩ (.int .i64 q) -> K v w'):gives Tryd.prog K ((execOp a.eval o).run Tryd.prog w):=by
 obtain ⟨r0,r1,f0,f1⟩:=R;rw [gtV] at hx;unfold execOp;simp only [ho,hp,hx];go_simp;exact h _ _ rfl
theorem X6w (w:World) (k:ByteArray) (iv:Value) (n:Int) (l:List Int) (B b:Nat) (hB:w.cell? ⟨B,0,none⟩ = some (.map (some b))) (hm:Q1f w b Q2h) (hk:kindB k = true) (hv:IsInts w iv l) (hl:∀ x ∈ l,0 <= x /\ x < 62) :
    Calls Tryd.prog 97 #[.agg #[.string k,.int .i64 n,iv],.pointer (some ⟨B,0,none⟩)] w fun e w'=>e = .returned (gtV (Q1d l) (needOf k n l.length)) /\ Ext w w':=by
 have HK:=Lib.hid hk;have HV:=Lib.hid hv;have HL:=Lib.hid hl;have HM:=Lib.hid hm;have hw:=Ext.box w (.cells #[.string k,.int .i64 n,iv] 83);have c0:(w.alloc (.cells #[.string k,.int .i64 n,iv] 83)).cell? ⟨w.heap.size,0,none⟩ = some (.string k):=Q0d w #[.string k,.int .i64 n,iv] 83 0;have c1:(w.alloc (.cells #[.string k,.int .i64 n,iv] 83)).cell? ⟨w.heap.size,1,none⟩ = some (.int .i64 n):=Q0d w #[.string k,.int .i64 n,iv] 83 1;have c2:(w.alloc (.cells #[.string k,.int .i64 n,iv] 83)).cell? ⟨w.heap.size,2,none⟩ = some (iv):=Q0d w #[.string k,.int .i64 n,iv] 83 2;have hx0:=Ext.box (w.alloc (.cells #[.string k,.int .i64 n,iv] 83)) (.cells #[.int .i64 0,.int .i64 0] 171);have R:=Res.new1 w (.cells #[.string k,.int .i64 n,iv] 83) 171;replace c0:=hx0.cell c0;replace c1:=hx0.cell c1;replace c2:=hx0.cell c2;have hxx:=hw.trans hx0;have cB:=hxx.cell hB;clear hk hv hl hm hB;go_enter Tryd.func97,Tryd.ntmps97;go_wp2;obtain ⟨W,hW⟩:∃ W,(w.alloc (.cells #[.string k,.int .i64 n,iv] 83)).alloc (.cells #[.int .i64 0,.int .i64 0] 171) = W:=⟨_,rfl⟩;rw [hW] at c0 c1 c2 cB hxx R ⊢;clear hW hw hx0;have hxd:=hxx.trans (Ext.refl W).drew;refine Flow.region [.p,.w,.w,.w,.p,.w,.w,.p,.w,.w,.p,.last] [0,1,2,3,4,5,6,7,8,9,10,11] [[],[0],[0,1],[],[],[4],[3,4,5],[3,4,5,6],[],[0,1,2,3,4,5,6,7,8],[0,1,2,3,4,5,6,7,8,9],[0,1,2,3,4,5,6,7,8,9,10]] [11]
  [.c 0 (.pointer (some ⟨w.heap.size,2,none⟩)),.c 1 (iv),.c 2 (.int .i64 (Q1d l:Nat)),.c 3 (.map (some b)),.c 4 (.pointer (some ⟨w.heap.size,0,none⟩)),.c 5 (.string k),.c 6 (kv (Q8c k)),.c 7 (.func (.func (Q8c k)) #[] #[]),.c 8 (.agg #[.string k,.int .i64 n,iv]),.c 9 (.int .i64 (needOf k n l.length)),.c 10 (gtV (Q1d l) (needOf k n l.length)),.none]
  [fun v w1 w'=>w'.cell? ⟨w.heap.size + 1,0,none⟩ = some (.int .i64 (Q1d l:Nat)) /\ w'.cell? ⟨w.heap.size + 1,1,none⟩ = some (.int .i64 (needOf k n l.length)) /\ Below w.heap.size w1 w'] (by kernel_rfl) rfl (by kernel_rfl) ⟨?g0,?g1,?g2,?g3,?g4,?g5,?g6,?g7,?g8,?g9,?g10,?g11,trivial⟩ ?post
 case g0 | g4=>
  intro v w1 hx;refine ⟨_,fun w=>?_,rfl⟩;go_simp
 case g1 | g5=>
  intro v w1 hx;(repeat intro (zq:v _ = _));have c0:=hx.cell c0;have c1:=hx.cell c1;have c2:=hx.cell c2;have cB:=hx.cell cB;intro K hK;go_simp;exact hK _ _ (Ext.refl _) rfl
 case g2=>
  intro v w1 hx;(repeat intro (zq:v _ = _));have c0:=hx.cell c0;have c1:=hx.cell c1;have c2:=hx.cell c2;have cB:=hx.cell cB;intro K hK;go_simp;refine Q0b (Q9i _ _ _ (HV.out.ext (hxd.trans hx)) HL.out) ?_;rintro e w2 ⟨rfl,rfl⟩;exact ⟨_,rfl,hK _ _ (Ext.refl _) rfl⟩
 case g3 | g8=>
  intro v w1 hx;have c0:=hx.cell c0;have c1:=hx.cell c1;have c2:=hx.cell c2;have cB:=hx.cell cB;intro K hK;go_simp;exact hK _ _ (Ext.refl _) rfl
 case g6=>
  intro v w1 hx;(repeat intro (zq:v _ = _));have c0:=hx.cell c0;have c1:=hx.cell c1;have c2:=hx.cell c2;have cB:=hx.cell cB;have hlk:=Q2p (P:=Tryd.prog) (HM.out.ext (hxd.trans hx)) X0x Y0t (Y1x _) k false;rw [if_neg (by simp),X7i HK.out] at hlk
  intro K hK;go_simp;exact hK _ _ (Ext.refl _) rfl
 case g7=>
  intro v w1 hx (q3:v 3 = _) (q4:v 4 = _) (q5:v 5 = _) (q6:v 6 = _);unfold kv at q6;have hfk:=Q8e (Q8c k);refine ⟨_,fun w=>?_,rfl⟩;go_simp
 case g9=>
  intro v w1 hx;(repeat intro (zq:v _ = _));have c0:=hx.cell c0;have c1:=hx.cell c1;have c2:=hx.cell c2;have cB:=hx.cell cB;have hen:=X2g k;intro K hK;go_simp;refine Q0b (X6m k _ _ _ _ l (HV.out.ext (hxd.trans hx))) ?_;rintro e w2 ⟨rfl,hx2⟩;exact ⟨_,rfl,hK _ _ hx2 rfl⟩
 case g10=>
  intro v w1 hx;(repeat intro (zq:v _ = _));refine ⟨_,fun w=>?_,rfl⟩;go_simp
 case g11=>
  intro v w1 hx;(repeat intro (zq:v _ = _));intro wl hT;obtain rfl:wl = w1:=hT;intro bb hbb;have c0:=hx.cell c0;have c1:=hx.cell c1;have c2:=hx.cell c2;have cB:=hx.cell cB;intro K hK;have o1:bb.eval (.tmp 3) = .pointer (some ⟨w.heap.size + 1,0,none⟩):=by rw [hbb]; dsimp only; simp (discharger:=decide) only [eval_put_ne]; rfl
  have o2:bb.eval (.tmp 14) = gtV (Q1d l) (needOf k n l.length):=by rw [hbb]; dsimp only; rw [Q0a (by simp only [size_put]; exact (by decide:14 < 15))]; assumption
  have hxx2:=(Ext.refl W).drew.trans hx;have R2:=R.ext hxx2;obtain ⟨e0,e1⟩:=X7p (x:=.int .i64 (Q1d l:Nat)) (y:=.int .i64 (needOf k n l.length)) R2.c0 R2.c1;clear hbb;refine X0h _ _ rfl (w.heap.size + 1) o1 (Q1d l) (needOf k n l.length) o2 R2 (fun v' w' hw'=>?_);subst hw';exact hK _ _ ⟨e0,e1,((Below.refl w.heap.size wl).setCell (p:=⟨w.heap.size + 1,0,none⟩) (by show w.heap.size <= w.heap.size + 1; omega) _).setCell (p:=⟨w.heap.size + 1,1,none⟩) (by show w.heap.size <= w.heap.size + 1; omega) _⟩
 case post =>
  intro v w1 hx;(iterate 11 intro (zq:v _ = _));intro w2 hE;replace hE:(fun v w1 w'=>w'.cell? ⟨w.heap.size + 1,0,none⟩ = some (.int .i64 (Q1d l:Nat)) /\ w'.cell? ⟨w.heap.size + 1,1,none⟩ = some (.int .i64 (needOf k n l.length)) /\ Below w.heap.size w1 w') v w1 w2:=hE;simp only [Flow.acts,Act.put];go_simp;obtain ⟨e0,e1,e2⟩:=hE;go_wp2;refine bodyPost_ret (v:=gtV (Q1d l) (needOf k n l.length)) (by simp [results,Tryd.results97,go_sem,e0,e1,gtV]) rfl ?_
  exact ⟨rfl,Below.trans (hxd.trans hx) e2⟩
end Go.Proofs
namespace Go.Tw
open Go.RowKit Go.Flow
def Q2r {α:Type} (w:World) (base:Nat) (e:TypeId) (k:Nat) (enc:α -> List Value) (v:Value) (l:List α):Prop:=w.ownsRow base e k v l.length (l.flatMap enc)
theorem Q2r.nil {α:Type} (w:World) (base:Nat) (e:TypeId) (k:Nat) (enc:α -> List Value):Q2r w base e k enc (.slice none 0 0) []:=World.ownsRow_nil w base e k
theorem Q2r.below {α:Type} {w w':World} {base:Nat} {e:TypeId} {k:Nat} {enc:α -> List Value} {v:Value} {l:List α} (h:Q2r w base e k enc v l) (hx:Ext w w'):Q2r w' base e k enc v l:=by
 obtain ⟨h1,h2⟩:=h;refine ⟨h1,?_⟩
 rcases h2 with h2 | ⟨g,cap,cur,hv,hb,hg,r⟩
 . exact .inl h2
 . refine .inr ⟨g,cap,cur,hv,hb,?_,r⟩
   rw [Below.block hx g (Array.getElem?_eq_some_iff.1 hg).1]; exact hg
theorem Q2r.snoc {α:Type} {w:World} {base:Nat} {e:TypeId} {k:Nat} {enc:α -> List Value} {v:Value} {l:List α} {x:α} (h:w.ownsRow base e k v (l.length + 1) (l.flatMap enc ++ enc x)):Q2r w base e k enc v (l ++ [x]):=by
 unfold Q2r; simpa using h
theorem Q9w {α:Type} {enc:α -> List Value} {k:Nat} (hk:∀ x,(enc x).length = k):∀ l:List α,(l.flatMap enc).length = l.length * k
 | []=>by simp
 | x :: l=>by rw [List.flatMap_cons,List.length_append,hk,Q9w hk l,List.length_cons,Nat.add_mul]; omega
theorem flat_get {α:Type} {enc:α -> List Value} {k:Nat} (hk:∀ x,(enc x).length = k):∀ (l:List α) (j i:Nat) (hj:j < l.length),i < k -> (l.flatMap enc)[j * k + i]? = (enc l[j])[i]?
 | x :: l,0,i,_,hi=>by
   rw [List.flatMap_cons,Nat.zero_mul,Nat.zero_add,List.getElem?_append_left (by rw [hk]; exact hi)]; rfl
 | x :: l,j + 1,i,hj,hi=>by
   have hj':j < l.length:=by simpa using hj
   rw [List.flatMap_cons,List.getElem?_append_right (by rw [hk,Nat.add_mul]; omega),hk,show (j + 1) * k + i - k = j * k + i from by rw [Nat.add_mul]; omega,flat_get hk l j i hj' hi]
   rfl
theorem Q2r.rows {α:Type} {w:World} {base:Nat} {e:TypeId} {k:Nat} {enc:α -> List Value} {v:Value} {l:List α} {R:World -> (Nat -> Value) -> α -> Prop} (h:Q2r w base e k enc v l) (hl:l.length <= 17592186043904)
    (hk:∀ x,(enc x).length = k) (hR:∀ x ∈ l,R w (fun i=>((enc x)[i]?).getD undef) x) (hloc:∀ c c' x,(∀ i,i < k -> c i = c' i) -> R w c x -> R w c' x):Rows k R w v l:=by
 refine ⟨fun j=>((l.flatMap enc)[j]?).getD undef,?_,fun j hj=>hloc _ _ _ (fun i hi=>?_) (hR _ (List.getElem_mem hj))⟩
 . obtain ⟨_,h2⟩:=h
   rcases h2 with ⟨rfl,h0⟩ | ⟨g,cap,cur,rfl,_,hg,hcap,_,_,htake⟩
   . exact ⟨none,0,by rw [h0],hl,by omega,fun j hj=>by rw [h0,Nat.zero_mul] at hj; omega⟩
   . refine ⟨some ⟨g,0,none⟩,cap,rfl,hl,hcap,fun j hj=>⟨g,0,rfl,?_⟩⟩
     rw [Nat.zero_add];have h1:=congrArg (fun l=>l[j]?) htake;simp only [List.getElem?_take,hj,if_true] at h1;have hlt:j < (l.flatMap enc).length:=by rw [Q9w hk]; exact hj
     rw [List.getElem?_eq_getElem hlt] at h1;simp only [World.cell?,hg,List.getElem?_eq_getElem hlt,Option.getD_some]
     simpa using h1
 . show ((enc l[j])[i]?).getD undef = ((l.flatMap enc)[j * k + i]?).getD undef
   rw [flat_get hk l j i hj hi]
theorem X8s (w:World) (xs:List Value) (e:TypeId):∀ j u,xs[j]? = some u -> (w.alloc (.cells xs.toArray e)).cell? ((⟨w.heap.size,0,none⟩:Addr).add j) = some u:=by
 intro j u h;rw [addr_add,Nat.zero_add,World.cell?_alloc_at _ _ _ _ rfl]
 simpa using h
def Y2o (x:Nat × Int):List Value:=[.int .i64 (x.1:Nat),.int .i64 x.2]
theorem Q2r.gts {w:World} {base:Nat} {e:TypeId} {v:Value} {l:List (Nat × Int)} {R:World -> (Nat -> Value) -> Nat × Int -> Prop} (hR:∀ w c x,R w c x ↔ c 0 = .int .i64 (x.1:Nat) /\ c 1 = .int .i64 x.2) (h:Q2r w base e 2 Y2o v l) (hl:l.length <= 17592186043904):Rows 2 R w v l :=
 h.rows hl (fun _=>rfl) (fun x _=>(hR _ _ _).2 ⟨rfl,rfl⟩) (fun c c' x hc h=>(hR _ _ _).2 (by have:=(hR _ _ _).1 h; rw [<- hc 0 (by omega),<- hc 1 (by omega)]; exact this))
end Go.Tw
namespace Go.Proofs
open Go.RowKit Go.Tw Go.Flow
theorem Tryd.Y1v:(Tryd.prog.info? 171).map (fun i=>(i.zero,i.size,i.bytes)) = some (some (.agg #[.int .i64 0,.int .i64 0]),2,16):=by kernel_rfl
theorem _root_.Go.Tw.Valid.kind {t:Tree} (h:Valid t) {k:Nat} (hk:k < t.gates.length):kindB (gKind t.gates k) = true:=by
 have:=h.gate k hk;unfold Tree.gateErrAt gateErr at this;rw [Q0n] at this;have:=this (if kindB (gKind t.gates k) = true then 0 else 13) (by simp)
 cases hb:kindB (gKind t.gates k) with
 | true=>rfl
 | false=>rw [hb] at this; simp at this
def Q9z (t:Tree) (k:Nat):List (Nat × Int):=(List.range k).map t.gt
theorem X4s (t:Tree) (k:Nat):Q9z t (k + 1) = Q9z t k ++ [t.gt k]:=by unfold Q9z; rw [List.range_succ,List.map_append]; rfl
theorem X0k (t:Tree) (k:Nat):(Q9z t k).length = k:=by simp [Q9z]
theorem X1r (w:World) (gv:Value) (t:Tree) (B b:Nat) (hv:Valid t) (hg:IsGates w gv t.gates) (hB:w.cell? ⟨B,0,none⟩ = some (.map (some b))) (hm:Q1f w b Q2h) :
    Calls Tryd.prog 96 #[gv,.func (.func 97) #[] #[.pointer (some ⟨B,0,none⟩)]] w fun e w'=>∃ u,e = .returned u /\ Q2r w' w.heap.size 171 2 Y2o u t.gts /\ Ext w w':=by
 obtain ⟨i0,hi,hz0,hz1,hz2⟩:=info_parts Tryd.Y1v;obtain ⟨A,cap,rfl,hl,hcap,hc⟩:=hg.opened;have HV:=Lib.hid hv;have HM:=Lib.hid hm;have HB:=Lib.hid hB;have HC:=Lib.hid hc;have hng:=hv.ng';clear hg hv hm hB hc;go_enter Tryd.func96,Tryd.ntmps96;go_wp2
 go_loopw [5,10] (fun o i wr=>∃ (k:Nat),k <= t.gates.length /\ i = .int .i64 k /\ Q2r wr w.heap.size 171 2 Y2o o (Q9z t k) /\ Ext w wr) (fun _ i _=>t.gates.length - (intOf i).toNat)
 case atStart=>exact ⟨0,Nat.zero_le _,rfl,Q2r.nil _ _ _ _ _,Ext.refl _⟩
 case round =>
  obtain ⟨k,hk,rfl,hown,hx⟩:=hrel
  by_cases hlt:k < t.gates.length
  . obtain ⟨bb,off,m,rfl,hb,e0,e1,e2,hM,hks⟩:=HC.out k hlt
    replace e0:=hx.cell e0;replace e1:=hx.cell e1;replace e2:=hx.cell e2;have HIN:=Lib.hid (HV.out.Q9g hlt).2;have HK:=Lib.hid (HV.out.kind hlt);have HGT:Hid (t.gt k = (Q1d (gInputs t.gates k),needOf (gKind t.gates k) (gNeed t.gates k) (gInputs t.gates k).length)):=by exact (rfl:t.gt k = _)
    obtain ⟨A3,cap3,rfl,_,_,_⟩:=hM.opened;have HIM:=Lib.hid (hM.ext hx);have hlen:=X0k t k;have hx2:=Ext.box wr (.cells #[.string (gKind t.gates k),.int .i64 (gNeed t.gates k),.slice A3 (gInputs t.gates k).length cap3] 83);have hown2:=hown.below hx2;have hxx:=hx.trans hx2;have HX2:=Lib.hid hx2;clear hM hown hx2 hb;generalize hln:(Q9z t k).length = ln at hlen;go_wp2_with fail;refine (X6w _ _ _ _ (gInputs t.gates k) B b (hxx.cell HB.out) (HM.out.ext hxx) HK.out (HIM.out.ext HX2.out) (fun x hx=>by have:=HIN.out x hx; omega)).mono ?_
    rintro e w1 ⟨rfl,hx1⟩;rw [gtV];have hown3:=hown2.below hx1;have hx3:=hxx.trans hx1;obtain ⟨M,hMe⟩:∃ M,Q1d (gInputs t.gates k) = M:=⟨_,rfl⟩;obtain ⟨q,hq⟩:∃ q,needOf (gKind t.gates k) (gNeed t.gates k) (gInputs t.gates k).length = q:=⟨_,rfl⟩;rw [hMe,hq] at HGT ⊢;unfold Q2r at hown3;rw [hln] at hown3;clear hMe hq hown2 hx1 hxx HX2 HIM HIN e0 e1 e2;go_wp2_with (at_builtin; refine wpList_append_own _ rfl _ _ 129 rfl (w.heap.size) 171 i0 (.agg #[.int .i64 0,.int .i64 0]) 2 16 Tryd.underlying129 hi hz0 hz1 hz2 rfl (by decide) _ _ _ rfl (World.ownsRow.alloc hown3 _) ⟨w1.heap.size,0,none⟩ 1 1 [.int .i64 (M:Nat),.int .i64 q] rfl rfl ?_ ?_ ?_ ?_ ?_ ?_; exact X8s _ _ _; (focus (simp [Value.oneCell'])); (focus (unfold maxLen; omega)); (focus omega); (focus (have:=hx3.size; simp at this ⊢; omega)); intro v' w1 hown' hgrow _)
    have hx':=Q1z hx3 hown3 (Nat.le_refl _) hgrow;go_wp2;go_roundw
    case rel=>exact ⟨k + 1,by omega,by go_num,by rw [X4s,HGT.out]; rw [<- hln] at hown'; exact Q2r.snoc hown',hx'⟩
    case measure=>simp [intOf]; omega
  . have e:t.gts = Q9z t k:=by unfold Tree.gts Q9z; rw [show k = t.gates.length from by omega]
    have HE:=Lib.hid e;have hlen:=X0k t k;have HO:=Lib.hid hown;clear e hown;go_wp2;go_ret;exact ⟨_,rfl,by rw [HE.out]; exact HO.out,hx⟩
end Go.Proofs
namespace Go.Tw
open Go.RowKit Go.Flow
def Blk (w:World) (g:Nat) (T:TypeId) (cs:Array Value):Prop:=w.heap[g]? = some (.cells cs T (0,0))
theorem Blk.made (w:World) (T:TypeId) (cs:Array Value):Blk (w.alloc (.cells cs T)) w.heap.size T cs:=by show (w.heap.push _)[w.heap.size]? = _; simp
theorem Blk.cell {w:World} {g:Nat} {T:TypeId} {cs:Array Value} (h:Blk w g T cs) (k:Nat):w.cell? ⟨g,k,none⟩ = cs[k]?:=by unfold Blk at h; simp [World.cell?,h]
theorem Blk.frozen {w:World} {g:Nat} {T:TypeId} {cs:Array Value} (h:Blk w g T cs) (k:Nat):w.frozen? ⟨g,k,none⟩ = false:=by unfold Blk at h; simp [World.frozen?,h]
theorem Blk.set {w:World} {g:Nat} {T:TypeId} {cs:Array Value} (h:Blk w g T cs) (k:Nat) (u:Value):Blk (w.setCell ⟨g,k,none⟩ u) g T (cs.setIfInBounds k u):=by
 unfold Blk at h ⊢;simp only [World.setCell,Array.getElem?_modify,if_true,h,Option.map_some]; rfl
theorem Blk.below {w w':World} {g B:Nat} {T:TypeId} {cs:Array Value} (h:Blk w g T cs) (hb:Below B w w') (hg:g < B):Blk w' g T cs:=by
 unfold Blk at h ⊢; rw [hb.block g hg]; exact h
theorem Blk.lt {w:World} {g:Nat} {T:TypeId} {cs:Array Value} (h:Blk w g T cs):g < w.heap.size:=(Array.getElem?_eq_some_iff.1 h).1
theorem Blk.ext {w w':World} {g:Nat} {T:TypeId} {cs:Array Value} (h:Blk w g T cs) (hx:Ext w w'):Blk w' g T cs:=h.below hx h.lt
theorem Blk.drew {w:World} {g:Nat} {T:TypeId} {cs:Array Value} (h:Blk w g T cs):Blk w.drew g T cs:=h
theorem Q0f.setCell {α:Type} {w:World} {base:Nat} {e:TypeId} {enc:α -> Value} {v:Value} {l:List α} (h:Q0f w base e enc v l) {p:Addr} (hp:p.block < base) (u:Value):Q0f (w.setCell p u) base e enc v l:=by
 obtain ⟨h1,h2⟩:=h;refine ⟨h1,?_⟩
 rcases h2 with h2 | ⟨g,cap,cur,hv,hb,hg,r⟩
 . exact .inl h2
 . exact .inr ⟨g,cap,cur,hv,hb,by rw [Below.heap_setCell _ _ _ _ (by omega)]; exact hg,r⟩
def outA (sz:Int) (fv:Value) (c:List Int) (nb:Int) (gv:Value):Array Value:=#[.int .i64 sz,fv,.int .i64 (ix c 0),.int .i64 (ix c 1),.int .i64 (ix c 2),.int .i64 (ix c 3),.int .i64 (ix c 4),.int .i64 (ix c 5),.int .i64 (ix c 6),.int .i64 (ix c 7),.int .i64 (ix c 8),.int .i64 (ix c 9),.int .i64 (ix c 10),.int .i64 (ix c 11),.int .i64 nb,gv]
theorem X2v (sz:Int) (fv:Value) (c:List Int) (nb:Int) (gv:Value) {j:Nat} (hj:j < 12):(outA sz fv c nb gv)[2 + j]? = some (.int .i64 (ix c j)):=by
 have:j = 0 ∨ j = 1 ∨ j = 2 ∨ j = 3 ∨ j = 4 ∨ j = 5 ∨ j = 6 ∨ j = 7 ∨ j = 8 ∨ j = 9 ∨ j = 10 ∨ j = 11:=by omega
 rcases this with rfl | rfl | rfl | rfl | rfl | rfl | rfl | rfl | rfl | rfl | rfl | rfl <;> rfl
theorem X3s (sz:Int) (fv:Value) {c d:List Int} (nb:Int) (gv:Value) {j:Nat} {x:Int} (hj:j < 12) (hd:∀ i,i < 12 -> ix d i = if i = j then x else ix c i):(outA sz fv c nb gv).setIfInBounds (2 + j) (.int .i64 x) = outA sz fv d nb gv:=by
 have hj':j = 0 ∨ j = 1 ∨ j = 2 ∨ j = 3 ∨ j = 4 ∨ j = 5 ∨ j = 6 ∨ j = 7 ∨ j = 8 ∨ j = 9 ∨ j = 10 ∨ j = 11:=by omega
 have d0:=hd 0 (by omega)
 have d1:=hd 1 (by omega)
 have d2:=hd 2 (by omega)
 have d3:=hd 3 (by omega)
 have d4:=hd 4 (by omega)
 have d5:=hd 5 (by omega)
 have d6:=hd 6 (by omega)
 have d7:=hd 7 (by omega)
 have d8:=hd 8 (by omega)
 have d9:=hd 9 (by omega)
 have d10:=hd 10 (by omega)
 have d11:=hd 11 (by omega)
 unfold outA
 rcases hj' with rfl | rfl | rfl | rfl | rfl | rfl | rfl | rfl | rfl | rfl | rfl | rfl <;> simp only [d0,d1,d2,d3,d4,d5,d6,d7,d8,d9,d10,d11] <;> rfl
theorem X3h {P:Program} {w:World} {g:Nat} {T:TypeId} {cs:Array Value} (h:Blk w g T cs):(loadCells ⟨g,0,none⟩ cs.size).run P w = .ok cs w:=by
 have gen:∀ (n i:Nat) (acc:Array Value),i + n = cs.size -> acc.toList = cs.toList.take i -> (loadCellsFrom ⟨g,0,none⟩ i n acc).run P w = .ok cs w:=by
  intro n
  induction n with
  | zero =>
    intro i acc hi ha;have:acc = cs:=by
     apply Array.toList_inj.1
     rw [ha,List.take_of_length_le (by simp; omega)]
    subst this;simp [loadCellsFrom]
  | succ n ih =>
    intro i acc hi ha;have h0:=h.cell i;have hlt:i < cs.size:=by omega
    rw [Array.getElem?_eq_getElem hlt] at h0;have ea:(⟨g,0,none⟩:Addr).add i = ⟨g,i,none⟩:=by rw [addr_add,Nat.zero_add]
    rw [loadCellsFrom,ea];simp only [Sem.run_bind,load,Sem.run,h0,Result.andThen_ok];refine ih (i + 1) _ (by omega) ?_
    rw [Array.toList_push,ha,<- Array.getElem_toList (by simpa using hlt),List.take_append_getElem]
 exact gen cs.size 0 #[] (by omega) rfl
theorem Q3t {P:Program} {g:Nat} {T:TypeId}:∀ (vs:List Value) (i:Nat) (w:World) (cs:Array Value),Blk w g T cs -> (∀ u ∈ vs,u.oneCell' = true) -> i + vs.length = cs.size ->
    ∃ w',(storeCells ⟨g,0,none⟩ vs i).run P w = .ok () w' /\ Blk w' g T (cs.toList.take i ++ vs).toArray /\ (∀ n,n <= g -> Below n w w') /\ ∀ k,k ≠ g -> w'.heap[k]? = w.heap[k]?
 | [],i,w,cs,h,_,hi=>⟨w,by simp [storeCells],by rw [List.take_of_length_le (by simp at hi ⊢; omega),List.append_nil]; exact h,fun _ _=>Below.refl _ _,fun _ _=>rfl⟩
 | v :: vs,i,w,cs,h,h1,hi=>by
   have hlt:i < cs.size:=by simp at hi; omega
   have h0:=h.cell i;rw [Array.getElem?_eq_getElem hlt] at h0;have ea:(⟨g,0,none⟩:Addr).add i = ⟨g,i,none⟩:=by rw [addr_add,Nat.zero_add]
   obtain ⟨w',hr,hb,hl,ho⟩:=Q3t vs (i + 1) (w.setCell ⟨g,i,none⟩ v) (cs.setIfInBounds i v) (h.set i v) (fun u hu=>h1 u (List.mem_cons_of_mem _ hu)) (by simp at hi ⊢; omega)
   refine ⟨w',?_,?_,fun n hn=>Below.trans ((Below.refl n w).setCell (p:=⟨g,i,none⟩) hn v) (hl n hn),fun k hk=>(ho k hk).trans (Below.heap_setCell _ _ _ _ hk)⟩
   . rw [storeCells,ea]
     simp only [Sem.run_bind,run_store P w _ v _ (h1 v (List.mem_cons_self ..)),h0,h.frozen i,Bool.false_eq_true,if_false,Result.andThen_ok];exact hr
   . have e:(cs.setIfInBounds i v).toList.take (i + 1) ++ vs = cs.toList.take i ++ v :: vs:=by
      rw [Array.toList_setIfInBounds,List.take_set,List.take_succ_eq_append_getElem (by simpa using hlt)]
      simp [Nat.min_eq_left (Nat.le_of_lt hlt)]
     rw [e] at hb; exact hb
theorem Q1j {P:Program} {w:World} {g:Nat} {T BT:TypeId} {cs:Array Value} (h:Blk w g BT cs) (hA:∀ w,(isAgg T).run P w = .ok true w) (hS:∀ w,(sizeOf T).run P w = .ok cs.size w):(loadVar T ⟨g,0,none⟩).run P w = .ok (.agg cs) w:=by
 unfold loadVar;simp only [Sem.run_bind,hA,Result.andThen_ok,if_true,hS,X3h h,Sem.run_pure]
theorem Q0q {P:Program} {w:World} {ops:Array Oper} {rest:List Oper} {o:Oper} {a:Act} {Q:Exit -> Act -> World -> Prop} (hg:o.guard = none) (p:Operand) (T:TypeId) (hop:o.op = .load T p)
    (hA:∀ w,(isAgg T).run P w = .ok true w) {n:Nat} (hS:∀ w,(sizeOf T).run P w = .ok n w) {g:Nat} (hp:a.eval p = .pointer (some ⟨g,0,none⟩)) {BT:TypeId} {cs:Array Value} (hb:Blk w g BT cs) (hn:cs.size = n)
    (hK:wpList P ops Q rest (a.put o.dst (.agg cs)) w):wpList P ops Q (o :: rest) a w:=by
 subst hn;refine wpList_plain hg fun K' hK'=>?_;unfold Oper.wp;have hr:(execOp a.eval o).run P w = .ok (.value (.agg cs)) w:=by
  unfold execOp;simp only [hop,hp,Instr.loadAt,Instr.sureAddr,Sem.run_bind,Sem.run_pure,Result.andThen_ok,Q1j hb hA hS]
 rw [hr];exact hK' _ _ hK
theorem Q0j {P:Program} {w:World} {ops:Array Oper} {rest:List Oper} {o:Oper} {a:Act} {Q:Exit -> Act -> World -> Prop} (hg:o.guard = none) (p x:Operand) (T:TypeId) (hop:o.op = .store T p x)
    {n:Nat} (hS:∀ w,(sizeOf T).run P w = .ok n w) {g:Nat} (hp:a.eval p = .pointer (some ⟨g,0,none⟩)) {BT:TypeId} {cs vs:Array Value} (hx:a.eval x = .agg vs) (hb:Blk w g BT cs) (hn:cs.size = n) (hv:vs.size = n) (h1:∀ u ∈ vs.toList,u.oneCell' = true)
    (hK:∀ w',Blk w' g BT vs -> (∀ n,n <= g -> Below n w w') -> (∀ k,k ≠ g -> w'.heap[k]? = w.heap[k]?) -> wpList P ops Q rest (a.put o.dst undef) w'):wpList P ops Q (o :: rest) a w:=by
 refine wpList_plain hg fun K' hK'=>?_;unfold Oper.wp;obtain ⟨w',hr,hb',hl,ho⟩:=Q3t (P:=P) vs.toList 0 w cs hb h1 (by simp [hn,hv])
 have hs:(storeVar T ⟨g,0,none⟩ (.agg vs)).run P w = .ok () w':=by
  have hc:(Value.agg vs).cells = vs:=rfl;unfold storeVar;simp only [Sem.run_bind,hS,Result.andThen_ok];rw [if_neg (by rw [hc]; simp [hv])]
  exact hr
 have hr2:(execOp a.eval o).run P w = .ok .skip w':=by
  unfold execOp;simp only [hop,hp,hx,Instr.storeAt,Instr.sureAddr,Sem.run_bind,Sem.run_pure,Result.andThen_ok,hs]
 rw [hr2];exact hK' _ _ (hK w' (by simpa using hb') hl ho)
theorem Q3i {P:Program} {fn:Func} {p:Tmp} {T:TypeId} (h:fn.results = #[.cell p T]) {tmps:Array Value} {w:World} {g:Nat} (ht:tmps.getD p undef = .pointer (some ⟨g,0,none⟩)) {BT:TypeId} {cs:Array Value} (hb:Blk w g BT cs)
    (hA:∀ w,(isAgg T).run P w = .ok true w) (hS:∀ w,(sizeOf T).run P w = .ok cs.size w):(results fn tmps).run P w = .ok (.agg cs) w:=by
 unfold results;rw [h];simp only [List.mapM_toArray,List.mapM_cons,List.mapM_nil,Sem.run_bind,Sem.run_pure,ht,asAddr];simp [Q1j hb hA hS]
theorem Q2a {P:Program} {K:Value -> World -> Prop} {o:Oper} {a:Act} {w:World} {T:TypeId} (p x:Operand) (ho:o.op = .store T p x) (hT:∀ w,(sizeOf T).run P w = .ok 1 w) {g k:Nat} (hp:a.eval p = .pointer (some ⟨g,k,none⟩)) {u:Value} (hx:a.eval x = u) (hu:u.cells = #[u]) (h1:u.oneCell' = true) {BT:TypeId} {cs:Array Value} (hb:Blk w g BT cs) (hk:k < cs.size)
    (h:∀ v,K v (w.setCell ⟨g,k,none⟩ u)):gives P K ((execOp a.eval o).run P w):=by
 have h0:=hb.cell k;rw [Array.getElem?_eq_getElem hk] at h0;have hs:(storeVar T ⟨g,k,none⟩ u).run P w = .ok () (w.setCell ⟨g,k,none⟩ u):=by
  unfold storeVar;simp only [Sem.run_bind,hT,Result.andThen_ok,hu];rw [if_neg (by simp)]
  simp only [storeCells,Sem.run_bind,Sem.run_pure];have ea:(⟨g,k,none⟩:Addr).add 0 = ⟨g,k,none⟩:=by rw [addr_add,Nat.add_zero]
  rw [ea,run_store P w _ u _ h1];simp only [h0,hb.frozen k,Bool.false_eq_true,if_false,Result.andThen_ok]
 unfold execOp;simp only [ho,hp,hx,Instr.storeAt,Instr.sureAddr,Sem.run_bind,Sem.run_pure,Result.andThen_ok,hs];exact h _
theorem Q9r {P:Program} {K:Value -> World -> Prop} {o:Oper} {a:Act} {w:World} {T:TypeId} (p x:Operand) (ho:o.op = .store T p x) (hT:∀ w,(sizeOf T).run P w = .ok 1 w) {g k:Nat} (hp:a.eval p = .pointer (some ⟨g,k,none⟩)) {u c:Value} (hx:a.eval x = u) (hu:u.cells = #[c]) (h1:c.oneCell' = true) {BT:TypeId} {cs:Array Value} (hb:Blk w g BT cs) (hk:k < cs.size)
    (h:∀ v,K v (w.setCell ⟨g,k,none⟩ c)):gives P K ((execOp a.eval o).run P w):=by
 have h0:=hb.cell k;rw [Array.getElem?_eq_getElem hk] at h0;have hs:(storeVar T ⟨g,k,none⟩ u).run P w = .ok () (w.setCell ⟨g,k,none⟩ c):=by
  unfold storeVar;simp only [Sem.run_bind,hT,Result.andThen_ok,hu];rw [if_neg (by simp)]
  simp only [storeCells,Sem.run_bind,Sem.run_pure];have ea:(⟨g,k,none⟩:Addr).add 0 = ⟨g,k,none⟩:=by rw [addr_add,Nat.add_zero]
  rw [ea,run_store P w _ c _ h1];simp only [h0,hb.frozen k,Bool.false_eq_true,if_false,Result.andThen_ok]
 unfold execOp;simp only [ho,hp,hx,Instr.storeAt,Instr.sureAddr,Sem.run_bind,Sem.run_pure,Result.andThen_ok,hs];exact h _
theorem Q0f.only {α:Type} {w w':World} {base g:Nat} {e:TypeId} {enc:α -> Value} {v:Value} {l:List α} (h:Q0f w base e enc v l) (hg:g < base) (ho:∀ k,k ≠ g -> w'.heap[k]? = w.heap[k]?):Q0f w' base e enc v l:=by
 obtain ⟨h1,h2⟩:=h;refine ⟨h1,?_⟩
 rcases h2 with h2 | ⟨g',cap,cur,hv,hb,hg',r⟩
 . exact .inl h2
 . exact .inr ⟨g',cap,cur,hv,hb,by rw [ho _ (by omega)]; exact hg',r⟩
theorem Q2r.only {α:Type} {w w':World} {base g k:Nat} {e:TypeId} {enc:α -> List Value} {v:Value} {l:List α} (h:Q2r w base e k enc v l) (hg:g < base) (ho:∀ k,k ≠ g -> w'.heap[k]? = w.heap[k]?):Q2r w' base e k enc v l:=by
 obtain ⟨h1,h2⟩:=h;refine ⟨h1,?_⟩
 rcases h2 with h2 | ⟨g',cap,cur,hv,hb,hg',r⟩
 . exact .inl h2
 . exact .inr ⟨g',cap,cur,hv,hb,by rw [ho _ (by omega)]; exact hg',r⟩
theorem Q2r.shape {α:Type} {w:World} {base k:Nat} {e:TypeId} {enc:α -> List Value} {v:Value} {l:List α} (h:Q2r w base e k enc v l):∃ b c,v = .slice b l.length c /\ l.length <= c:=by
 rcases h.2 with ⟨rfl,h0⟩ | ⟨g,cap,cur,rfl,_,_,hc,_⟩
 . exact ⟨none,0,by rw [h0],by omega⟩
 . exact ⟨_,cap,rfl,hc⟩
theorem Q1x (w:World) (p:Addr) (u:Value):∀ k,k ≠ p.block -> (w.setCell p u).heap[k]? = w.heap[k]?:=fun _ hk=>Below.heap_setCell _ _ _ _ hk
theorem Q4e {w w':World} {row:Option Nat} (h:w.grownBy w' row) {b k:Nat} (hb:b < w.heap.size) (hne:some b ≠ row):w'.cell? ⟨b,k,none⟩ = w.cell? ⟨b,k,none⟩ :=
 World.cell?_of_block (w:=w) (h.block b hb hne)
theorem Q0f.new_ne {α:Type} {w:World} {base:Nat} {e:TypeId} {enc:α -> Value} {v:Value} {l:List α} (h:Q0f w base e enc v l):some w.heap.size ≠ v.ownBlock:=fun e=>by
 have:=(World.ownsRow.lt h _ e.symm).2; omega
theorem X6s (w:World) (T:TypeId) (cs:Array Value):∃ W,w.alloc (.cells cs T) = W /\ Blk W w.heap.size T cs /\ Hid (Ext w W) /\ W.heap.size = w.heap.size + 1:=⟨_,rfl,Blk.made _ _ _,Lib.hid (Ext.box _ _),by simp⟩
theorem X4g (w:World) (T:TypeId) (cs:Array Value) (T':TypeId) (cs':Array Value):∃ W,(w.alloc (.cells cs T)).alloc (.cells cs' T') = W /\ Blk W w.heap.size T cs /\ Blk W (w.heap.size + 1) T' cs' /\ Hid (Ext w W) /\ W.heap.size = w.heap.size + 1 + 1:=by
 obtain ⟨X,rfl,h1,h2,h3⟩:=X6s w T cs;refine ⟨_,rfl,h1.ext (Ext.box _ _),?_,Lib.hid (h2.out.trans (Ext.box _ _)),by simp⟩
 rw [<- h3]; exact Blk.made _ _ _
theorem Y0j (w:World) (T:TypeId) (cs:Array Value) (T':TypeId) (cs':Array Value) (T'':TypeId) (cs'':Array Value):∃ W,((w.alloc (.cells cs T)).alloc (.cells cs' T')).alloc (.cells cs'' T'') = W /\ Blk W w.heap.size T cs /\ Blk W (w.heap.size + 1) T' cs' /\ Blk W (w.heap.size + 1 + 1) T'' cs'' /\ Hid (Ext w W) /\ W.heap.size = w.heap.size + 1 + 1 + 1:=by
 obtain ⟨X,rfl,h1,h2,h3,h4⟩:=X4g w T cs T' cs';refine ⟨_,rfl,h1.ext (Ext.box _ _),h2.ext (Ext.box _ _),?_,Lib.hid (h3.out.trans (Ext.box _ _)),by simp⟩
 rw [<- h4]; exact Blk.made _ _ _
end Go.Tw
