/- The last operations of a region: the frame under a name, its slots looked up one by one (to reckon the frame out runs away). Contract: a gate's mask and need. Slices of structs that a call makes and appends to, read as lists. Contract: the gates' masks and needs. A block of cells under one name; the block in which nodes are made. -/
import Derived.Test.YtgopmebjbkdfgaaGreatDoorTx03
import Derived.Test.YtgopmebjbkdfgaaGreatDoorTx05
import Derived.Shelf.Abstract
import Derived.Test.YtgopmebjbkdfgaaGreatDoorTx04
set_option maxRecDepth 1000000
set_option maxHeartbeats 64000000
set_option linter.unusedVariables false
set_option linter.unusedSimpArgs false
set_option linter.constructorNameAsVariable false
namespace Go.Flow
open Go.RowKit Go.Tw
theorem eval_put_ne {a:Act} {d:Tmp} {u:Value} {t:Tmp} (h:d ≠ t):(a.put (some d) u).eval (.tmp t) = a.eval (.tmp t):=by
 show (a.tmps.setIfInBounds d u).getD t undef = a.tmps.getD t undef;simp only [Array.getD_eq_getD_getElem?,Array.getElem?_setIfInBounds_ne h]
theorem size_put {a:Act} {d:Option Tmp} {u:Value}:(a.put d u).tmps.size = a.tmps.size:=Q8l a d u
theorem Q0a {a:Act} {u:Value} {t:Tmp} (h:t < a.tmps.size):(a.put (some t) u).eval (.tmp t) = u:=by
 show (a.tmps.setIfInBounds t u).getD t undef = u;simp [Array.getD_eq_getD_getElem?,h]
theorem eval_const {a:Act} {u:Value}:a.eval (.const u) = u:=rfl
end Go.Flow
namespace Go.Proofs
open Go.RowKit Go.Tw Go.Flow
def gtV (m:Nat) (q:Int):Value:=.agg #[.int .i64 m,.int .i64 q]
def X6o (k:ByteArray):Nat:=if k = X0g then 141 else if k = sOr then 142 else 143
theorem Y9v {k:ByteArray} (h:Q8j k = true) (z:Value):(Q6k k Q6n).getD z = kv (X6o k):=by
 unfold Q6n Q6k X6o
 by_cases h1:k = X0g
 . rw [if_pos (str_eq h1),if_pos h1]; rfl
 . rw [Q5e h1,if_neg (by simp),if_neg h1]
   unfold Q6k
   by_cases h2:k = sOr
   . rw [if_pos (str_eq h2),if_pos h2]; rfl
   . rw [Q5e h2,if_neg (by simp),if_neg h2]
     unfold Q6k;have h3:k = Q6b:=by
      unfold Q8j at h;rw [Q5e h1,Q5e h2] at h;exact Y3u (by simpa using h)
     rw [if_pos (str_eq h3)]; rfl
theorem X6p (f:Nat) (w:World):(Instr.field 177 (.agg #[.func (.func f) #[] #[]]) 0).run Tryz.prog w = .ok (.func (.func f) #[] #[]) w:=by kernel_rfl
theorem Y3g (k:ByteArray) (args:Array Value) (w:World):(callFunc (X6o k) args).run Tryz.prog w = .ok (.enter (X6o k) args) w:=by
 unfold X6o
 split
 . exact enters_of Tryz.func141 (by kernel_rfl) rfl _ _
 . split
   . exact enters_of Tryz.func142 (by kernel_rfl) rfl _ _
   . exact enters_of Tryz.func143 (by kernel_rfl) rfl _ _
theorem Y9i (k:ByteArray) (w:World) (kv v:Value) (n:Int) (l:List Int) (hv:Q0e w v l) :
    Calls Tryz.prog (X6o k) #[.agg #[kv,.int .i64 n,v]] w fun e w'=>e = .returned (.int .i64 (Q6o k n l.length)) /\ Ext w w':=by
 unfold X6o Q6o
 by_cases h1:k = X0g
 . rw [if_pos h1,if_pos h1]; exact Z0g _ _ _ _ _ hv
 . rw [if_neg h1,if_neg h1]
   by_cases h2:k = sOr
   . rw [if_pos h2,if_pos h2]; exact Y9j _ _ _ _
   . rw [if_neg h2,if_neg h2]; exact Y9k _ _ _ _
theorem Y0v {K:Value -> World -> Prop} {o:Oper} {a:Act} {w:World} (p x:Operand) (ho:o.op = .store 174 p x) (g:Nat) (hp:a.eval p = .pointer (some ⟨g,0,none⟩)) (m:Nat) (q:Int) (hx:a.eval x = gtV m q) (R:Res w g)
    (h:∀ v w',w' = (w.setCell ⟨g,0,none⟩ (.int .i64 m)).setCell ⟨g,1,none⟩ (.int .i64 q) -> K v w'):gives Tryz.prog K ((execOp a.eval o).run Tryz.prog w):=by
 obtain ⟨r0,r1,f0,f1⟩:=R;rw [gtV] at hx;unfold execOp;simp only [ho,hp,hx];go_simp;exact h _ _ rfl
theorem Z0f (w:World) (k:ByteArray) (iv:Value) (n:Int) (l:List Int) (B b:Nat) (hB:w.cell? ⟨B,0,none⟩ = some (.map (some b))) (hm:Q4a w b Q6n) (hk:Q8j k = true) (hv:Q0e w iv l) (hl:∀ x ∈ l,0 <= x /\ x < 62) :
    Calls Tryz.prog 119 #[.agg #[.string k,.int .i64 n,iv],.pointer (some ⟨B,0,none⟩)] w fun e w'=>e = .returned (gtV (Q1n l) (Q6o k n l.length)) /\ Ext w w':=by
 have HK:=Lib.hid hk;have HV:=Lib.hid hv;have HL:=Lib.hid hl;have HM:=Lib.hid hm;have hw:=Ext.box w (.cells #[.string k,.int .i64 n,iv] 114);have c0:(w.alloc (.cells #[.string k,.int .i64 n,iv] 114)).cell? ⟨w.heap.size,0,none⟩ = some (.string k):=Q0w w #[.string k,.int .i64 n,iv] 114 0;have c1:(w.alloc (.cells #[.string k,.int .i64 n,iv] 114)).cell? ⟨w.heap.size,1,none⟩ = some (.int .i64 n):=Q0w w #[.string k,.int .i64 n,iv] 114 1;have c2:(w.alloc (.cells #[.string k,.int .i64 n,iv] 114)).cell? ⟨w.heap.size,2,none⟩ = some (iv):=Q0w w #[.string k,.int .i64 n,iv] 114 2;have hx0:=Ext.box (w.alloc (.cells #[.string k,.int .i64 n,iv] 114)) (.cells #[.int .i64 0,.int .i64 0] 174);have R:=Res.new1 w (.cells #[.string k,.int .i64 n,iv] 114) 174;replace c0:=hx0.cell c0;replace c1:=hx0.cell c1;replace c2:=hx0.cell c2;have hxx:=hw.trans hx0;have cB:=hxx.cell hB;clear hk hv hl hm hB;go_enter Tryz.func119,Tryz.ntmps119;go_wp2;obtain ⟨W,hW⟩:∃ W,(w.alloc (.cells #[.string k,.int .i64 n,iv] 114)).alloc (.cells #[.int .i64 0,.int .i64 0] 174) = W:=⟨_,rfl⟩;rw [hW] at c0 c1 c2 cB hxx R ⊢;clear hW hw hx0;have hxd:=hxx.trans (Ext.refl W).drew;refine Flow.region [.p,.w,.w,.w,.p,.w,.w,.p,.w,.w,.p,.last] [0,1,2,3,4,5,6,7,8,9,10,11] [[],[0],[0,1],[],[],[4],[3,4,5],[3,4,5,6],[],[0,1,2,3,4,5,6,7,8],[0,1,2,3,4,5,6,7,8,9],[0,1,2,3,4,5,6,7,8,9,10]] [11]
  [.c 0 (.pointer (some ⟨w.heap.size,2,none⟩)),.c 1 (iv),.c 2 (.int .i64 (Q1n l:Nat)),.c 3 (.map (some b)),.c 4 (.pointer (some ⟨w.heap.size,0,none⟩)),.c 5 (.string k),.c 6 (kv (X6o k)),.c 7 (.func (.func (X6o k)) #[] #[]),.c 8 (.agg #[.string k,.int .i64 n,iv]),.c 9 (.int .i64 (Q6o k n l.length)),.c 10 (gtV (Q1n l) (Q6o k n l.length)),.none]
  [fun v w1 w'=>w'.cell? ⟨w.heap.size + 1,0,none⟩ = some (.int .i64 (Q1n l:Nat)) /\ w'.cell? ⟨w.heap.size + 1,1,none⟩ = some (.int .i64 (Q6o k n l.length)) /\ Below w.heap.size w1 w'] (by kernel_rfl) rfl (by kernel_rfl) ⟨?g0,?g1,?g2,?g3,?g4,?g5,?g6,?g7,?g8,?g9,?g10,?g11,trivial⟩ ?post
 case g0 | g4=>
  intro v w1 hx;refine ⟨_,fun w=>?_,rfl⟩;go_simp
 case g1 | g5=>
  intro v w1 hx;(repeat intro (zq:v _ = _));have c0:=hx.cell c0;have c1:=hx.cell c1;have c2:=hx.cell c2;have cB:=hx.cell cB;intro K hK;go_simp;exact hK _ _ (Ext.refl _) rfl
 case g2=>
  intro v w1 hx;(repeat intro (zq:v _ = _));have c0:=hx.cell c0;have c1:=hx.cell c1;have c2:=hx.cell c2;have cB:=hx.cell cB;intro K hK;go_simp;refine Q0d (X1h _ _ _ (HV.out.ext (hxd.trans hx)) HL.out) ?_;rintro e w2 ⟨rfl,rfl⟩;exact ⟨_,rfl,hK _ _ (Ext.refl _) rfl⟩
 case g3 | g8=>
  intro v w1 hx;have c0:=hx.cell c0;have c1:=hx.cell c1;have c2:=hx.cell c2;have cB:=hx.cell cB;intro K hK;go_simp;exact hK _ _ (Ext.refl _) rfl
 case g6=>
  intro v w1 hx;(repeat intro (zq:v _ = _));have c0:=hx.cell c0;have c1:=hx.cell c1;have c2:=hx.cell c2;have cB:=hx.cell cB;have hlk:=Q7r (P:=Tryz.prog) (HM.out.ext (hxd.trans hx)) Y2e Z5w (Z8b _) k false;rw [if_neg (by simp),Y9v HK.out] at hlk
  intro K hK;go_simp;exact hK _ _ (Ext.refl _) rfl
 case g7=>
  intro v w1 hx (q3:v 3 = _) (q4:v 4 = _) (q5:v 5 = _) (q6:v 6 = _);unfold kv at q6;have hfk:=X6p (X6o k);refine ⟨_,fun w=>?_,rfl⟩;go_simp
 case g9=>
  intro v w1 hx;(repeat intro (zq:v _ = _));have c0:=hx.cell c0;have c1:=hx.cell c1;have c2:=hx.cell c2;have cB:=hx.cell cB;have hen:=Y3g k;intro K hK;go_simp;refine Q0d (Y9i k _ _ _ _ l (HV.out.ext (hxd.trans hx))) ?_;rintro e w2 ⟨rfl,hx2⟩;exact ⟨_,rfl,hK _ _ hx2 rfl⟩
 case g10=>
  intro v w1 hx;(repeat intro (zq:v _ = _));refine ⟨_,fun w=>?_,rfl⟩;go_simp
 case g11=>
  intro v w1 hx;(repeat intro (zq:v _ = _));intro wl hT;obtain rfl:wl = w1:=hT;intro bb hbb;have c0:=hx.cell c0;have c1:=hx.cell c1;have c2:=hx.cell c2;have cB:=hx.cell cB;intro K hK;have o1:bb.eval (.tmp 3) = .pointer (some ⟨w.heap.size + 1,0,none⟩):=by rw [hbb]; dsimp only; simp (discharger:=decide) only [eval_put_ne]; rfl
  have o2:bb.eval (.tmp 14) = gtV (Q1n l) (Q6o k n l.length):=by rw [hbb]; dsimp only; rw [Q0a (by simp only [size_put]; exact (by decide:14 < 15))]; assumption
  have hxx2:=(Ext.refl W).drew.trans hx;have R2:=R.ext hxx2;obtain ⟨e0,e1⟩:=Y9d (x:=.int .i64 (Q1n l:Nat)) (y:=.int .i64 (Q6o k n l.length)) R2.c0 R2.c1;clear hbb;refine Y0v _ _ rfl (w.heap.size + 1) o1 (Q1n l) (Q6o k n l.length) o2 R2 (fun v' w' hw'=>?_);subst hw';exact hK _ _ ⟨e0,e1,((Below.refl w.heap.size wl).setCell (p:=⟨w.heap.size + 1,0,none⟩) (by show w.heap.size <= w.heap.size + 1; omega) _).setCell (p:=⟨w.heap.size + 1,1,none⟩) (by show w.heap.size <= w.heap.size + 1; omega) _⟩
 case post =>
  intro v w1 hx;(iterate 11 intro (zq:v _ = _));intro w2 hE;replace hE:(fun v w1 w'=>w'.cell? ⟨w.heap.size + 1,0,none⟩ = some (.int .i64 (Q1n l:Nat)) /\ w'.cell? ⟨w.heap.size + 1,1,none⟩ = some (.int .i64 (Q6o k n l.length)) /\ Below w.heap.size w1 w') v w1 w2:=hE;simp only [Flow.acts,Act.put];go_simp;obtain ⟨e0,e1,e2⟩:=hE;go_wp2;refine bodyPost_ret (v:=gtV (Q1n l) (Q6o k n l.length)) (by simp [results,Tryz.results119,go_sem,e0,e1,gtV]) rfl ?_
  exact ⟨rfl,Below.trans (hxd.trans hx) e2⟩
end Go.Proofs
namespace Go.Tw
open Go.RowKit Go.Flow
def Q1o {α:Type} (w:World) (base:Nat) (e:TypeId) (k:Nat) (enc:α -> List Value) (v:Value) (l:List α):Prop:=w.ownsRow base e k v l.length (l.flatMap enc)
theorem Q1o.nil {α:Type} (w:World) (base:Nat) (e:TypeId) (k:Nat) (enc:α -> List Value):Q1o w base e k enc (.slice none 0 0) []:=World.ownsRow_nil w base e k
theorem Q1o.below {α:Type} {w w':World} {base:Nat} {e:TypeId} {k:Nat} {enc:α -> List Value} {v:Value} {l:List α} (h:Q1o w base e k enc v l) (hx:Ext w w'):Q1o w' base e k enc v l:=by
 obtain ⟨h1,h2⟩:=h;refine ⟨h1,?_⟩
 rcases h2 with h2 | ⟨g,cap,cur,hv,hb,hg,r⟩
 . exact .inl h2
 . refine .inr ⟨g,cap,cur,hv,hb,?_,r⟩
   rw [Below.block hx g (Array.getElem?_eq_some_iff.1 hg).1]; exact hg
theorem Q1o.snoc {α:Type} {w:World} {base:Nat} {e:TypeId} {k:Nat} {enc:α -> List Value} {v:Value} {l:List α} {x:α} (h:w.ownsRow base e k v (l.length + 1) (l.flatMap enc ++ enc x)):Q1o w base e k enc v (l ++ [x]):=by
 unfold Q1o; simpa using h
theorem Q9q {α:Type} {enc:α -> List Value} {k:Nat} (hk:∀ x,(enc x).length = k):∀ l:List α,(l.flatMap enc).length = l.length * k
 | []=>by simp
 | x :: l=>by rw [List.flatMap_cons,List.length_append,hk,Q9q hk l,List.length_cons,Nat.add_mul]; omega
theorem flat_get {α:Type} {enc:α -> List Value} {k:Nat} (hk:∀ x,(enc x).length = k):∀ (l:List α) (j i:Nat) (hj:j < l.length),i < k -> (l.flatMap enc)[j * k + i]? = (enc l[j])[i]?
 | x :: l,0,i,_,hi=>by
   rw [List.flatMap_cons,Nat.zero_mul,Nat.zero_add,List.getElem?_append_left (by rw [hk]; exact hi)]; rfl
 | x :: l,j + 1,i,hj,hi=>by
   have hj':j < l.length:=by simpa using hj
   rw [List.flatMap_cons,List.getElem?_append_right (by rw [hk,Nat.add_mul]; omega),hk,show (j + 1) * k + i - k = j * k + i from by rw [Nat.add_mul]; omega,flat_get hk l j i hj' hi]
   rfl
theorem Q1o.rows {α:Type} {w:World} {base:Nat} {e:TypeId} {k:Nat} {enc:α -> List Value} {v:Value} {l:List α} {R:World -> (Nat -> Value) -> α -> Prop} (h:Q1o w base e k enc v l) (hl:l.length <= 17592186043904)
    (hk:∀ x,(enc x).length = k) (hR:∀ x ∈ l,R w (fun i=>((enc x)[i]?).getD undef) x) (hloc:∀ c c' x,(∀ i,i < k -> c i = c' i) -> R w c x -> R w c' x):Rows k R w v l:=by
 refine ⟨fun j=>((l.flatMap enc)[j]?).getD undef,?_,fun j hj=>hloc _ _ _ (fun i hi=>?_) (hR _ (List.getElem_mem hj))⟩
 . obtain ⟨_,h2⟩:=h
   rcases h2 with ⟨rfl,h0⟩ | ⟨g,cap,cur,rfl,_,hg,hcap,_,_,htake⟩
   . exact ⟨none,0,by rw [h0],hl,by omega,fun j hj=>by rw [h0,Nat.zero_mul] at hj; omega⟩
   . refine ⟨some ⟨g,0,none⟩,cap,rfl,hl,hcap,fun j hj=>⟨g,0,rfl,?_⟩⟩
     rw [Nat.zero_add];have h1:=congrArg (fun l=>l[j]?) htake;simp only [List.getElem?_take,hj,if_true] at h1;have hlt:j < (l.flatMap enc).length:=by rw [Q9q hk]; exact hj
     rw [List.getElem?_eq_getElem hlt] at h1;simp only [World.cell?,hg,List.getElem?_eq_getElem hlt,Option.getD_some]
     simpa using h1
 . show ((enc l[j])[i]?).getD undef = ((l.flatMap enc)[j * k + i]?).getD undef
   rw [flat_get hk l j i hj hi]
theorem Z3y (w:World) (xs:List Value) (e:TypeId):∀ j u,xs[j]? = some u -> (w.alloc (.cells xs.toArray e)).cell? ((⟨w.heap.size,0,none⟩:Addr).add j) = some u:=by
 intro j u h;rw [addr_add,Nat.zero_add,World.cell?_alloc_at _ _ _ _ rfl]
 simpa using h
def Z9q (x:Nat × Int):List Value:=[.int .i64 (x.1:Nat),.int .i64 x.2]
theorem Q1o.gts {w:World} {base:Nat} {e:TypeId} {v:Value} {l:List (Nat × Int)} {R:World -> (Nat -> Value) -> Nat × Int -> Prop} (hR:∀ w c x,R w c x ↔ c 0 = .int .i64 (x.1:Nat) /\ c 1 = .int .i64 x.2) (h:Q1o w base e 2 Z9q v l) (hl:l.length <= 17592186043904):Rows 2 R w v l :=
 h.rows hl (fun _=>rfl) (fun x _=>(hR _ _ _).2 ⟨rfl,rfl⟩) (fun c c' x hc h=>(hR _ _ _).2 (by have:=(hR _ _ _).1 h; rw [<- hc 0 (by omega),<- hc 1 (by omega)]; exact this))
end Go.Tw
namespace Go.Proofs
open Go.RowKit Go.Tw Go.Flow
theorem Tryz.Z8o:(Tryz.prog.info? 174).map (fun i=>(i.zero,i.size,i.bytes)) = some (some (.agg #[.int .i64 0,.int .i64 0]),2,16):=by kernel_rfl
theorem _root_.Go.Tw.Valid.kind {t:Tree} (h:Valid t) {k:Nat} (hk:k < t.gates.length):Q8j (Q2f t.gates k) = true:=by
 have:=h.gate k hk;unfold Tree.Q1z Q8n at this;rw [Q1h] at this;have:=this (if Q8j (Q2f t.gates k) = true then 0 else 13) (by simp)
 cases hb:Q8j (Q2f t.gates k) with
 | true=>rfl
 | false=>rw [hb] at this; simp at this
def Y0b (t:Tree) (k:Nat):List (Nat × Int):=(List.range k).map t.gt
theorem Y7e (t:Tree) (k:Nat):Y0b t (k + 1) = Y0b t k ++ [t.gt k]:=by unfold Y0b; rw [List.range_succ,List.map_append]; rfl
theorem Y1k (t:Tree) (k:Nat):(Y0b t k).length = k:=by simp [Y0b]
theorem Y3h (w:World) (gv:Value) (t:Tree) (B b:Nat) (hv:Valid t) (hg:Q4b w gv t.gates) (hB:w.cell? ⟨B,0,none⟩ = some (.map (some b))) (hm:Q4a w b Q6n) :
    Calls Tryz.prog 118 #[gv,.func (.func 119) #[] #[.pointer (some ⟨B,0,none⟩)]] w fun e w'=>∃ u,e = .returned u /\ Q1o w' w.heap.size 174 2 Z9q u t.gts /\ Ext w w':=by
 obtain ⟨i0,hi,hz0,hz1,hz2⟩:=info_parts Tryz.Z8o;obtain ⟨A,cap,rfl,hl,hcap,hc⟩:=hg.opened;have HV:=Lib.hid hv;have HM:=Lib.hid hm;have HB:=Lib.hid hB;have HC:=Lib.hid hc;have hng:=hv.ng';clear hg hv hm hB hc;go_enter Tryz.func118,Tryz.ntmps118;go_wp2
 go_loopw [5,10] (fun o i wr=>∃ (k:Nat),k <= t.gates.length /\ i = .int .i64 k /\ Q1o wr w.heap.size 174 2 Z9q o (Y0b t k) /\ Ext w wr) (fun _ i _=>t.gates.length - (intOf i).toNat)
 case atStart=>exact ⟨0,Nat.zero_le _,rfl,Q1o.nil _ _ _ _ _,Ext.refl _⟩
 case round =>
  obtain ⟨k,hk,rfl,hown,hx⟩:=hrel
  by_cases hlt:k < t.gates.length
  . obtain ⟨bb,off,m,rfl,hb,e0,e1,e2,hM,hks⟩:=HC.out k hlt
    replace e0:=hx.cell e0;replace e1:=hx.cell e1;replace e2:=hx.cell e2;have HIN:=Lib.hid (HV.out.X4d hlt).2;have HK:=Lib.hid (HV.out.kind hlt);have HGT:Hid (t.gt k = (Q1n (Q0m t.gates k),Q6o (Q2f t.gates k) (Q3e t.gates k) (Q0m t.gates k).length)):=by exact (rfl:t.gt k = _)
    obtain ⟨A3,cap3,rfl,_,_,_⟩:=hM.opened;have HIM:=Lib.hid (hM.ext hx);have hlen:=Y1k t k;have hx2:=Ext.box wr (.cells #[.string (Q2f t.gates k),.int .i64 (Q3e t.gates k),.slice A3 (Q0m t.gates k).length cap3] 114);have hown2:=hown.below hx2;have hxx:=hx.trans hx2;have HX2:=Lib.hid hx2;clear hM hown hx2 hb;generalize hln:(Y0b t k).length = ln at hlen;go_wp2_with fail;refine (Z0f _ _ _ _ (Q0m t.gates k) B b (hxx.cell HB.out) (HM.out.ext hxx) HK.out (HIM.out.ext HX2.out) (fun x hx=>by have:=HIN.out x hx; omega)).mono ?_
    rintro e w1 ⟨rfl,hx1⟩;rw [gtV];have hown3:=hown2.below hx1;have hx3:=hxx.trans hx1;obtain ⟨M,hMe⟩:∃ M,Q1n (Q0m t.gates k) = M:=⟨_,rfl⟩;obtain ⟨q,hq⟩:∃ q,Q6o (Q2f t.gates k) (Q3e t.gates k) (Q0m t.gates k).length = q:=⟨_,rfl⟩;rw [hMe,hq] at HGT ⊢;unfold Q1o at hown3;rw [hln] at hown3;clear hMe hq hown2 hx1 hxx HX2 HIM HIN e0 e1 e2;go_wp2_with (at_builtin; refine wpList_append_own _ rfl _ _ 127 rfl (w.heap.size) 174 i0 (.agg #[.int .i64 0,.int .i64 0]) 2 16 Tryz.underlying127 hi hz0 hz1 hz2 rfl (by decide) _ _ _ rfl (World.ownsRow.alloc hown3 _) ⟨w1.heap.size,0,none⟩ 1 1 [.int .i64 (M:Nat),.int .i64 q] rfl rfl ?_ ?_ ?_ ?_ ?_ ?_; exact Z3y _ _ _; (focus (simp [Value.oneCell'])); (focus (unfold maxLen; omega)); (focus omega); (focus (have:=hx3.size; simp at this ⊢; omega)); intro v' w1 hown' hgrow _)
    have hx':=Q3u hx3 hown3 (Nat.le_refl _) hgrow;go_wp2;go_roundw
    case rel=>exact ⟨k + 1,by omega,by go_num,by rw [Y7e,HGT.out]; rw [<- hln] at hown'; exact Q1o.snoc hown',hx'⟩
    case measure=>simp [intOf]; omega
  . have e:t.gts = Y0b t k:=by unfold Tree.gts Y0b; rw [show k = t.gates.length from by omega]
    have HE:=Lib.hid e;have hlen:=Y1k t k;have HO:=Lib.hid hown;clear e hown;go_wp2;go_ret;exact ⟨_,rfl,by rw [HE.out]; exact HO.out,hx⟩
end Go.Proofs
namespace Go.Tw
open Go.RowKit Go.Flow
def Blk (w:World) (g:Nat) (T:TypeId) (cs:Array Value):Prop:=w.heap[g]? = some (.cells cs T (0,0))
theorem Blk.made (w:World) (T:TypeId) (cs:Array Value):Blk (w.alloc (.cells cs T)) w.heap.size T cs:=by show (w.heap.push _)[w.heap.size]? = _; simp
theorem Blk.cell {w:World} {g:Nat} {T:TypeId} {cs:Array Value} (h:Blk w g T cs) (k:Nat):w.cell? ⟨g,k,none⟩ = cs[k]?:=by unfold Blk at h; simp [World.cell?,h]
theorem Blk.frozen {w:World} {g:Nat} {T:TypeId} {cs:Array Value} (h:Blk w g T cs) (k:Nat):w.frozen? ⟨g,k,none⟩ = false:=by unfold Blk at h; simp [World.frozen?,h]
theorem Blk.set {w:World} {g:Nat} {T:TypeId} {cs:Array Value} (h:Blk w g T cs) (k:Nat) (u:Value):Blk (w.setCell ⟨g,k,none⟩ u) g T (cs.setIfInBounds k u):=by
 unfold Blk at h ⊢;simp only [World.setCell,Array.getElem?_modify,if_true,h,Option.map_some]; rfl
theorem Blk.below {w w':World} {g B:Nat} {T:TypeId} {cs:Array Value} (h:Blk w g T cs) (hb:Below B w w') (hg:g < B):Blk w' g T cs:=by
 unfold Blk at h ⊢; rw [hb.block g hg]; exact h
theorem Blk.lt {w:World} {g:Nat} {T:TypeId} {cs:Array Value} (h:Blk w g T cs):g < w.heap.size:=(Array.getElem?_eq_some_iff.1 h).1
theorem Blk.ext {w w':World} {g:Nat} {T:TypeId} {cs:Array Value} (h:Blk w g T cs) (hx:Ext w w'):Blk w' g T cs:=h.below hx h.lt
theorem Blk.drew {w:World} {g:Nat} {T:TypeId} {cs:Array Value} (h:Blk w g T cs):Blk w.drew g T cs:=h
theorem Q0s.setCell {α:Type} {w:World} {base:Nat} {e:TypeId} {enc:α -> Value} {v:Value} {l:List α} (h:Q0s w base e enc v l) {p:Addr} (hp:p.block < base) (u:Value):Q0s (w.setCell p u) base e enc v l:=by
 obtain ⟨h1,h2⟩:=h;refine ⟨h1,?_⟩
 rcases h2 with h2 | ⟨g,cap,cur,hv,hb,hg,r⟩
 . exact .inl h2
 . exact .inr ⟨g,cap,cur,hv,hb,by rw [Below.heap_setCell _ _ _ _ (by omega)]; exact hg,r⟩
def outA (sz:Int) (fv:Value) (c:List Int) (nb:Int) (gv:Value):Array Value:=#[.int .i64 sz,fv,.int .i64 (ix c 0),.int .i64 (ix c 1),.int .i64 (ix c 2),.int .i64 (ix c 3),.int .i64 (ix c 4),.int .i64 (ix c 5),.int .i64 (ix c 6),.int .i64 (ix c 7),.int .i64 (ix c 8),.int .i64 (ix c 9),.int .i64 (ix c 10),.int .i64 (ix c 11),.int .i64 nb,gv]
theorem X9n (sz:Int) (fv:Value) (c:List Int) (nb:Int) (gv:Value) {j:Nat} (hj:j < 12):(outA sz fv c nb gv)[2 + j]? = some (.int .i64 (ix c j)):=by
 have:j = 0 ∨ j = 1 ∨ j = 2 ∨ j = 3 ∨ j = 4 ∨ j = 5 ∨ j = 6 ∨ j = 7 ∨ j = 8 ∨ j = 9 ∨ j = 10 ∨ j = 11:=by omega
 rcases this with rfl | rfl | rfl | rfl | rfl | rfl | rfl | rfl | rfl | rfl | rfl | rfl <;> rfl
theorem Y5f (sz:Int) (fv:Value) {c d:List Int} (nb:Int) (gv:Value) {j:Nat} {x:Int} (hj:j < 12) (hd:∀ i,i < 12 -> ix d i = if i = j then x else ix c i):(outA sz fv c nb gv).setIfInBounds (2 + j) (.int .i64 x) = outA sz fv d nb gv:=by
 have hj':j = 0 ∨ j = 1 ∨ j = 2 ∨ j = 3 ∨ j = 4 ∨ j = 5 ∨ j = 6 ∨ j = 7 ∨ j = 8 ∨ j = 9 ∨ j = 10 ∨ j = 11:=by omega
 have d0:=hd 0 (by omega)
 have d1:=hd 1 (by omega)
 have d2:=hd 2 (by omega)
 have d3:=hd 3 (by omega)
 have d4:=hd 4 (by omega)
 have d5:=hd 5 (by omega)
 have d6:=hd 6 (by omega)
 have d7:=hd 7 (by omega)
 have d8:=hd 8 (by omega)
 have d9:=hd 9 (by omega)
 have d10:=hd 10 (by omega)
 have d11:=hd 11 (by omega)
 unfold outA
 rcases hj' with rfl | rfl | rfl | rfl | rfl | rfl | rfl | rfl | rfl | rfl | rfl | rfl <;> simp only [d0,d1,d2,d3,d4,d5,d6,d7,d8,d9,d10,d11] <;> rfl
theorem Y2y {P:Program} {w:World} {g:Nat} {T:TypeId} {cs:Array Value} (h:Blk w g T cs):(loadCells ⟨g,0,none⟩ cs.size).run P w = .ok cs w:=by
 have gen:∀ (n i:Nat) (acc:Array Value),i + n = cs.size -> acc.toList = cs.toList.take i -> (loadCellsFrom ⟨g,0,none⟩ i n acc).run P w = .ok cs w:=by
  intro n
  induction n with
  | zero =>
    intro i acc hi ha;have:acc = cs:=by
     apply Array.toList_inj.1
     rw [ha,List.take_of_length_le (by simp; omega)]
    subst this;simp [loadCellsFrom]
  | succ n ih =>
    intro i acc hi ha;have h0:=h.cell i;have hlt:i < cs.size:=by omega
    rw [Array.getElem?_eq_getElem hlt] at h0;have ea:(⟨g,0,none⟩:Addr).add i = ⟨g,i,none⟩:=by rw [addr_add,Nat.zero_add]
    rw [loadCellsFrom,ea];simp only [Sem.run_bind,load,Sem.run,h0,Result.andThen_ok];refine ih (i + 1) _ (by omega) ?_
    rw [Array.toList_push,ha,<- Array.getElem_toList (by simpa using hlt),List.take_append_getElem]
 exact gen cs.size 0 #[] (by omega) rfl
theorem Q7c {P:Program} {g:Nat} {T:TypeId}:∀ (vs:List Value) (i:Nat) (w:World) (cs:Array Value),Blk w g T cs -> (∀ u ∈ vs,u.oneCell' = true) -> i + vs.length = cs.size ->
    ∃ w',(storeCells ⟨g,0,none⟩ vs i).run P w = .ok () w' /\ Blk w' g T (cs.toList.take i ++ vs).toArray /\ (∀ n,n <= g -> Below n w w') /\ ∀ k,k ≠ g -> w'.heap[k]? = w.heap[k]?
 | [],i,w,cs,h,_,hi=>⟨w,by simp [storeCells],by rw [List.take_of_length_le (by simp at hi ⊢; omega),List.append_nil]; exact h,fun _ _=>Below.refl _ _,fun _ _=>rfl⟩
 | v :: vs,i,w,cs,h,h1,hi=>by
   have hlt:i < cs.size:=by simp at hi; omega
   have h0:=h.cell i;rw [Array.getElem?_eq_getElem hlt] at h0;have ea:(⟨g,0,none⟩:Addr).add i = ⟨g,i,none⟩:=by rw [addr_add,Nat.zero_add]
   obtain ⟨w',hr,hb,hl,ho⟩:=Q7c vs (i + 1) (w.setCell ⟨g,i,none⟩ v) (cs.setIfInBounds i v) (h.set i v) (fun u hu=>h1 u (List.mem_cons_of_mem _ hu)) (by simp at hi ⊢; omega)
   refine ⟨w',?_,?_,fun n hn=>Below.trans ((Below.refl n w).setCell (p:=⟨g,i,none⟩) hn v) (hl n hn),fun k hk=>(ho k hk).trans (Below.heap_setCell _ _ _ _ hk)⟩
   . rw [storeCells,ea]
     simp only [Sem.run_bind,run_store P w _ v _ (h1 v (List.mem_cons_self ..)),h0,h.frozen i,Bool.false_eq_true,if_false,Result.andThen_ok];exact hr
   . have e:(cs.setIfInBounds i v).toList.take (i + 1) ++ vs = cs.toList.take i ++ v :: vs:=by
      rw [Array.toList_setIfInBounds,List.take_set,List.take_succ_eq_append_getElem (by simpa using hlt)]
      simp [Nat.min_eq_left (Nat.le_of_lt hlt)]
     rw [e] at hb; exact hb
theorem Q3b {P:Program} {w:World} {g:Nat} {T BT:TypeId} {cs:Array Value} (h:Blk w g BT cs) (hA:∀ w,(isAgg T).run P w = .ok true w) (hS:∀ w,(sizeOf T).run P w = .ok cs.size w):(loadVar T ⟨g,0,none⟩).run P w = .ok (.agg cs) w:=by
 unfold loadVar;simp only [Sem.run_bind,hA,Result.andThen_ok,if_true,hS,Y2y h,Sem.run_pure]
theorem Q0i {P:Program} {w:World} {ops:Array Oper} {rest:List Oper} {o:Oper} {a:Act} {Q:Exit -> Act -> World -> Prop} (hg:o.guard = none) (p:Operand) (T:TypeId) (hop:o.op = .load T p)
    (hA:∀ w,(isAgg T).run P w = .ok true w) {n:Nat} (hS:∀ w,(sizeOf T).run P w = .ok n w) {g:Nat} (hp:a.eval p = .pointer (some ⟨g,0,none⟩)) {BT:TypeId} {cs:Array Value} (hb:Blk w g BT cs) (hn:cs.size = n)
    (hK:wpList P ops Q rest (a.put o.dst (.agg cs)) w):wpList P ops Q (o :: rest) a w:=by
 subst hn;refine wpList_plain hg fun K' hK'=>?_;unfold Oper.wp;have hr:(execOp a.eval o).run P w = .ok (.value (.agg cs)) w:=by
  unfold execOp;simp only [hop,hp,Instr.loadAt,Instr.sureAddr,Sem.run_bind,Sem.run_pure,Result.andThen_ok,Q3b hb hA hS]
 rw [hr];exact hK' _ _ hK
theorem Q0c {P:Program} {w:World} {ops:Array Oper} {rest:List Oper} {o:Oper} {a:Act} {Q:Exit -> Act -> World -> Prop} (hg:o.guard = none) (p x:Operand) (T:TypeId) (hop:o.op = .store T p x)
    {n:Nat} (hS:∀ w,(sizeOf T).run P w = .ok n w) {g:Nat} (hp:a.eval p = .pointer (some ⟨g,0,none⟩)) {BT:TypeId} {cs vs:Array Value} (hx:a.eval x = .agg vs) (hb:Blk w g BT cs) (hn:cs.size = n) (hv:vs.size = n) (h1:∀ u ∈ vs.toList,u.oneCell' = true)
    (hK:∀ w',Blk w' g BT vs -> (∀ n,n <= g -> Below n w w') -> (∀ k,k ≠ g -> w'.heap[k]? = w.heap[k]?) -> wpList P ops Q rest (a.put o.dst undef) w'):wpList P ops Q (o :: rest) a w:=by
 refine wpList_plain hg fun K' hK'=>?_;unfold Oper.wp;obtain ⟨w',hr,hb',hl,ho⟩:=Q7c (P:=P) vs.toList 0 w cs hb h1 (by simp [hn,hv])
 have hs:(storeVar T ⟨g,0,none⟩ (.agg vs)).run P w = .ok () w':=by
  have hc:(Value.agg vs).cells = vs:=rfl;unfold storeVar;simp only [Sem.run_bind,hS,Result.andThen_ok];rw [if_neg (by rw [hc]; simp [hv])]
  exact hr
 have hr2:(execOp a.eval o).run P w = .ok .skip w':=by
  unfold execOp;simp only [hop,hp,hx,Instr.storeAt,Instr.sureAddr,Sem.run_bind,Sem.run_pure,Result.andThen_ok,hs]
 rw [hr2];exact hK' _ _ (hK w' (by simpa using hb') hl ho)
theorem Q4u {P:Program} {fn:Func} {p:Tmp} {T:TypeId} (h:fn.results = #[.cell p T]) {tmps:Array Value} {w:World} {g:Nat} (ht:tmps.getD p undef = .pointer (some ⟨g,0,none⟩)) {BT:TypeId} {cs:Array Value} (hb:Blk w g BT cs)
    (hA:∀ w,(isAgg T).run P w = .ok true w) (hS:∀ w,(sizeOf T).run P w = .ok cs.size w):(results fn tmps).run P w = .ok (.agg cs) w:=by
 unfold results;rw [h];simp only [List.mapM_toArray,List.mapM_cons,List.mapM_nil,Sem.run_bind,Sem.run_pure,ht,asAddr];simp [Q3b hb hA hS]
theorem Q2l {P:Program} {K:Value -> World -> Prop} {o:Oper} {a:Act} {w:World} {T:TypeId} (p x:Operand) (ho:o.op = .store T p x) (hT:∀ w,(sizeOf T).run P w = .ok 1 w) {g k:Nat} (hp:a.eval p = .pointer (some ⟨g,k,none⟩)) {u:Value} (hx:a.eval x = u) (hu:u.cells = #[u]) (h1:u.oneCell' = true) {BT:TypeId} {cs:Array Value} (hb:Blk w g BT cs) (hk:k < cs.size)
    (h:∀ v,K v (w.setCell ⟨g,k,none⟩ u)):gives P K ((execOp a.eval o).run P w):=by
 have h0:=hb.cell k;rw [Array.getElem?_eq_getElem hk] at h0;have hs:(storeVar T ⟨g,k,none⟩ u).run P w = .ok () (w.setCell ⟨g,k,none⟩ u):=by
  unfold storeVar;simp only [Sem.run_bind,hT,Result.andThen_ok,hu];rw [if_neg (by simp)]
  simp only [storeCells,Sem.run_bind,Sem.run_pure];have ea:(⟨g,k,none⟩:Addr).add 0 = ⟨g,k,none⟩:=by rw [addr_add,Nat.add_zero]
  rw [ea,run_store P w _ u _ h1];simp only [h0,hb.frozen k,Bool.false_eq_true,if_false,Result.andThen_ok]
 unfold execOp;simp only [ho,hp,hx,Instr.storeAt,Instr.sureAddr,Sem.run_bind,Sem.run_pure,Result.andThen_ok,hs];exact h _
theorem X9r {P:Program} {K:Value -> World -> Prop} {o:Oper} {a:Act} {w:World} {T:TypeId} (p x:Operand) (ho:o.op = .store T p x) (hT:∀ w,(sizeOf T).run P w = .ok 1 w) {g k:Nat} (hp:a.eval p = .pointer (some ⟨g,k,none⟩)) {u c:Value} (hx:a.eval x = u) (hu:u.cells = #[c]) (h1:c.oneCell' = true) {BT:TypeId} {cs:Array Value} (hb:Blk w g BT cs) (hk:k < cs.size)
    (h:∀ v,K v (w.setCell ⟨g,k,none⟩ c)):gives P K ((execOp a.eval o).run P w):=by
 have h0:=hb.cell k;rw [Array.getElem?_eq_getElem hk] at h0;have hs:(storeVar T ⟨g,k,none⟩ u).run P w = .ok () (w.setCell ⟨g,k,none⟩ c):=by
  unfold storeVar;simp only [Sem.run_bind,hT,Result.andThen_ok,hu];rw [if_neg (by simp)]
  simp only [storeCells,Sem.run_bind,Sem.run_pure];have ea:(⟨g,k,none⟩:Addr).add 0 = ⟨g,k,none⟩:=by rw [addr_add,Nat.add_zero]
  rw [ea,run_store P w _ c _ h1];simp only [h0,hb.frozen k,Bool.false_eq_true,if_false,Result.andThen_ok]
 unfold execOp;simp only [ho,hp,hx,Instr.storeAt,Instr.sureAddr,Sem.run_bind,Sem.run_pure,Result.andThen_ok,hs];exact h _
theorem Q0s.only {α:Type} {w w':World} {base g:Nat} {e:TypeId} {enc:α -> Value} {v:Value} {l:List α} (h:Q0s w base e enc v l) (hg:g < base) (ho:∀ k,k ≠ g -> w'.heap[k]? = w.heap[k]?):Q0s w' base e enc v l:=by
 obtain ⟨h1,h2⟩:=h;refine ⟨h1,?_⟩
 rcases h2 with h2 | ⟨g',cap,cur,hv,hb,hg',r⟩
 . exact .inl h2
 . exact .inr ⟨g',cap,cur,hv,hb,by rw [ho _ (by omega)]; exact hg',r⟩
theorem Q1o.only {α:Type} {w w':World} {base g k:Nat} {e:TypeId} {enc:α -> List Value} {v:Value} {l:List α} (h:Q1o w base e k enc v l) (hg:g < base) (ho:∀ k,k ≠ g -> w'.heap[k]? = w.heap[k]?):Q1o w' base e k enc v l:=by
 obtain ⟨h1,h2⟩:=h;refine ⟨h1,?_⟩
 rcases h2 with h2 | ⟨g',cap,cur,hv,hb,hg',r⟩
 . exact .inl h2
 . exact .inr ⟨g',cap,cur,hv,hb,by rw [ho _ (by omega)]; exact hg',r⟩
theorem Q1o.shape {α:Type} {w:World} {base k:Nat} {e:TypeId} {enc:α -> List Value} {v:Value} {l:List α} (h:Q1o w base e k enc v l):∃ b c,v = .slice b l.length c /\ l.length <= c:=by
 rcases h.2 with ⟨rfl,h0⟩ | ⟨g,cap,cur,rfl,_,_,hc,_⟩
 . exact ⟨none,0,by rw [h0],by omega⟩
 . exact ⟨_,cap,rfl,hc⟩
theorem Q7d (w:World) (p:Addr) (u:Value):∀ k,k ≠ p.block -> (w.setCell p u).heap[k]? = w.heap[k]?:=fun _ hk=>Below.heap_setCell _ _ _ _ hk
theorem Q9v {w w':World} {row:Option Nat} (h:w.grownBy w' row) {b k:Nat} (hb:b < w.heap.size) (hne:some b ≠ row):w'.cell? ⟨b,k,none⟩ = w.cell? ⟨b,k,none⟩ :=
 World.cell?_of_block (w:=w) (h.block b hb hne)
theorem Q0s.new_ne {α:Type} {w:World} {base:Nat} {e:TypeId} {enc:α -> Value} {v:Value} {l:List α} (h:Q0s w base e enc v l):some w.heap.size ≠ v.ownBlock:=fun e=>by
 have:=(World.ownsRow.lt h _ e.symm).2; omega
theorem Q3a (w:World) (T:TypeId) (cs:Array Value):∃ W,w.alloc (.cells cs T) = W /\ Blk W w.heap.size T cs /\ Hid (Ext w W) /\ W.heap.size = w.heap.size + 1:=⟨_,rfl,Blk.made _ _ _,Lib.hid (Ext.box _ _),by simp⟩
theorem Q5l (w:World) (T:TypeId) (cs:Array Value) (T':TypeId) (cs':Array Value):∃ W,(w.alloc (.cells cs T)).alloc (.cells cs' T') = W /\ Blk W w.heap.size T cs /\ Blk W (w.heap.size + 1) T' cs' /\ Hid (Ext w W) /\ W.heap.size = w.heap.size + 1 + 1:=by
 obtain ⟨X,rfl,h1,h2,h3⟩:=Q3a w T cs;refine ⟨_,rfl,h1.ext (Ext.box _ _),?_,Lib.hid (h2.out.trans (Ext.box _ _)),by simp⟩
 rw [<- h3]; exact Blk.made _ _ _
theorem X8e (w:World) (T:TypeId) (cs:Array Value) (T':TypeId) (cs':Array Value) (T'':TypeId) (cs'':Array Value):∃ W,((w.alloc (.cells cs T)).alloc (.cells cs' T')).alloc (.cells cs'' T'') = W /\ Blk W w.heap.size T cs /\ Blk W (w.heap.size + 1) T' cs' /\ Blk W (w.heap.size + 1 + 1) T'' cs'' /\ Hid (Ext w W) /\ W.heap.size = w.heap.size + 1 + 1 + 1:=by
 obtain ⟨X,rfl,h1,h2,h3,h4⟩:=Q5l w T cs T' cs';refine ⟨_,rfl,h1.ext (Ext.box _ _),h2.ext (Ext.box _ _),?_,Lib.hid (h3.out.trans (Ext.box _ _)),by simp⟩
 rw [<- h4]; exact Blk.made _ _ _
end Go.Tw
