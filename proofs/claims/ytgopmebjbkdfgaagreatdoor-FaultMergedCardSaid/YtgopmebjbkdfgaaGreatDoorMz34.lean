/- A tree with other names: it is valid, and has no name of at most six bytes. What FaultMerged asks of two merged trees. The walk through Merge from region 21 on: the gates of the second tree. -/
import Derived.Test.YtgopmebjbkdfgaaGreatDoorMz33
import Derived.Test.YtgopmebjbkdfgaaGreatDoorMz30
set_option maxRecDepth 1000000
set_option maxHeartbeats 64000000
set_option linter.unusedVariables false
set_option linter.unusedSimpArgs false
set_option linter.constructorNameAsVariable false
namespace Go.Proofs
open Go.RowKit Go.Tw Go.Flow
def J1s:ByteArray:=⟨#[95,111,116,104,101,114]⟩
def X3t (c:UInt8) (i:Nat):ByteArray:=⟨#[c]⟩ ++ Q3h i ++ J1s
theorem X8h {c:UInt8} {i:Nat} (h:i < 10):X3t c i = ⟨#[c,UInt8.ofNat (48 + i),95,111,116,104,101,114]⟩:=by
 unfold X3t J1s;rw [Q6k h]
 apply ByteArray.ext
 simp only [ByteArray.data_append];rfl
theorem X3z {c:UInt8} {i:Nat} (h:i < 10):(X3t c i).size = 8:=by rw [X8h h]; rfl
theorem X7c {c d:UInt8} {i j:Nat} (hi:i < 10) (hj:j < 10) (h:X3t c i = X3t d j):c = d /\ i = j:=by
 rw [X8h hi,X8h hj] at h;have h1:=congrArg (fun s=>s.data[0]?) h;have h2:=congrArg (fun s=>s.data[1]?) h;simp only [List.getElem?_toArray,List.getElem?_cons_zero,List.getElem?_cons_succ,Option.some.injEq] at h1 h2;refine ⟨h1,?_⟩;have h3:=congrArg UInt8.toNat h2;simp only [UInt8.toNat_ofNat'] at h3;omega
theorem Y4q:∀ i,i < 10 -> Q3d (X3t 98 i) = 0 /\ Q3d (X3t 99 i) = 0:=by
 intro i hi;rw [X8h hi,X8h hi];revert i;decide
def Y2w (l:List Basic) (k:Nat):List Basic:=(List.range l.length).map fun i=>⟨if i < k then X3t 98 i else bName l i,Q1d l i⟩
def Y3p (l:List Q6p) (mc:Nat -> Value) (k:Nat):List (ByteArray × Int × Value):=(List.range l.length).map fun i=>(if i < k then X3t 99 i else cName l i,Q0z l i,mc i)
def X1e (l:List Q6p):List Q6p:=(List.range l.length).map fun i=>⟨X3t 99 i,Q0z l i,Q0e l i⟩
def X5g (t:Tree):Tree:=⟨Y2w t.basics t.basics.length,X1e t.causes,t.gates⟩
theorem X0j (l:List Basic) (k:Nat):(Y2w l k).length = l.length:=by simp [Y2w]
theorem X0d (l:List Q6p) (mc:Nat -> Value) (k:Nat):(Y3p l mc k).length = l.length:=by simp [Y3p]
theorem Z5v (l:List Basic):Y2w l 0 = l:=by
 apply List.ext_getElem (by simp [Y2w])
 intro i h1 h2;simp only [Y2w,List.getElem_map,List.getElem_range,Nat.not_lt_zero,if_false];unfold bName Q1d;rw [getD_at h2]
theorem J0u (l:List Basic) {k:Nat}:(Y2w l k).set k ⟨X3t 98 k,Q1d l k⟩ = Y2w l (k + 1):=by
 apply List.ext_getElem (by simp [Y2w])
 intro i h1 h2;rw [List.getElem_set];simp only [Y2w,List.getElem_map,List.getElem_range]
 by_cases h:k = i
 . subst h; rw [if_pos rfl,if_pos (by omega)]
 . rw [if_neg h]
   by_cases h3:i < k
   . rw [if_pos h3,if_pos (by omega)]
   . rw [if_neg h3,if_neg (by omega)]
theorem J2z {l:List Basic} {k:Nat} (hk:k < l.length):(Y2w l k)[k]'(by rw [X0j]; exact hk) = ⟨bName l k,Q1d l k⟩:=by
 simp only [Y2w,List.getElem_map,List.getElem_range,Nat.lt_irrefl,if_false]
theorem Z7g {t:Tree} (mc:Nat -> Value):Y3p t.causes mc 0 = (List.range t.causes.length).map (cF t mc):=by
 apply List.ext_getElem (by simp [Y3p])
 intro i h1 h2;simp only [Y3p,List.getElem_map,List.getElem_range,Nat.not_lt_zero,if_false];rfl
theorem Z8p (l:List Q6p) (mc:Nat -> Value) {k:Nat}:(Y3p l mc k).set k (X3t 99 k,Q0z l k,mc k) = Y3p l mc (k + 1):=by
 apply List.ext_getElem (by simp [Y3p])
 intro i h1 h2;rw [List.getElem_set];simp only [Y3p,List.getElem_map,List.getElem_range]
 by_cases h:k = i
 . subst h; rw [if_pos rfl,if_pos (by omega)]
 . rw [if_neg h]
   by_cases h3:i < k
   . rw [if_pos h3,if_pos (by omega)]
   . rw [if_neg h3,if_neg (by omega)]
theorem J4c {l:List Q6p} {mc:Nat -> Value} {k:Nat} (hk:k < l.length):(Y3p l mc k)[k]'(by rw [X0d]; exact hk) = (cName l k,Q0z l k,mc k):=by
 simp only [Y3p,List.getElem_map,List.getElem_range,Nat.lt_irrefl,if_false]
theorem J0f (t:Tree) (mc:Nat -> Value):Y3p t.causes mc t.causes.length = (List.range (X5g t).causes.length).map (cF (X5g t) mc):=by
 have e:(X5g t).causes.length = t.causes.length:=by simp [X5g,X1e]
 apply List.ext_getElem (by simp [Y3p,e])
 intro i h1 h2;have hi:i < t.causes.length:=by simpa [Y3p] using h1
 simp only [Y3p,List.getElem_map,List.getElem_range,if_pos hi,cF];have e2:(X5g t).causes.getD i default = ⟨X3t 99 i,Q0z t.causes i,Q0e t.causes i⟩:=by
  rw [getD_at (by omega)]
  simp only [X5g,X1e,List.getElem_map,List.getElem_range]
 simp only [cName,Q0z,e2]
section
variable {t:Tree}
theorem Q7x:(X5g t).basics.length = t.basics.length:=by simp [X5g,Y2w]
theorem X4q:(X5g t).causes.length = t.causes.length:=by simp [X5g,X1e]
theorem Y3t:(X5g t).size = t.size:=by unfold Tree.size; rw [Q7x,X4q]
theorem X9k {i:Nat} (h:i < t.basics.length):(X5g t).basics.getD i default = ⟨X3t 98 i,Q1d t.basics i⟩:=by
 rw [getD_at (by rw [Q7x]; exact h)]
 simp only [X5g,Y2w,List.getElem_map,List.getElem_range,if_pos h]
theorem X1j {i:Nat} (h:i < t.causes.length):(X5g t).causes.getD i default = ⟨X3t 99 i,Q0z t.causes i,Q0e t.causes i⟩:=by
 rw [getD_at (by rw [X4q]; exact h)]
 simp only [X5g,X1e,List.getElem_map,List.getElem_range]
theorem X7m {i:Nat} (h:i < t.size):(X5g t).nameAt i = if i < t.basics.length then X3t 98 i else X3t 99 (i - t.basics.length):=by
 unfold Tree.size at h;unfold Tree.nameAt bName cName;rw [Q7x]
 by_cases h1:i < t.basics.length
 . rw [if_pos h1,if_pos h1,X9k h1]
 . rw [if_neg h1,if_neg h1,X1j (by omega)]
theorem Z2f {i:Nat} (h:i < t.size):(X5g t).Q0v i = t.Q0v i:=by
 unfold Tree.size at h;unfold Tree.Q0v;rw [Q7x]
 by_cases h1:i < t.basics.length
 . rw [if_pos h1,if_pos h1]
   show ((X5g t).basics.getD i default).chance = _;rw [X9k h1]
 . rw [if_neg h1,if_neg h1]
   show ((X5g t).causes.getD (i - t.basics.length) default).chance = _;rw [X1j (by omega)]
theorem Z5x (h:t.err = 0) (hs:t.size <= 5):(X5g t).err = 0:=by
 have hv:=Valid.of h;have hz:=hs;unfold Tree.size at hz;rw [Y8x] at h ⊢;obtain ⟨h1,h2,h3,h4,h5,h6⟩:=h;rw [Y3t,Q7x];refine ⟨h1,h2,h3,h4,fun i hi=>?_,fun i hi=>?_⟩
 . obtain ⟨r1,r2,r3⟩:=Q6r (h5 i hi)
   have hu:i < t.basics.length + t.causes.length:=hi;refine X6x ?_ (by rw [Z2f hi]; exact r2) (fun k hk=>?_) fun hge=>?_
   . rw [X7m hi]
     split
     . exact (Y4q i (by omega)).1
     . exact (Y4q _ (by omega)).2
   . rw [X7m (by omega),X7m hi]
     intro e
     split at e <;> split at e
     . have:=(X7c (by omega) (by omega) e).2; omega
     . have:=(X7c (by omega) (by omega) e).1; revert this; decide
     . have:=(X7c (by omega) (by omega) e).1; revert this; decide
     . have:=(X7c (by omega) (by omega) e).2; omega
   . rw [Q7x] at hge ⊢
     unfold Q0e;rw [X1j (by omega)]
     exact r3 hge
 . have:=h6 i hi
   unfold Tree.Q1n at this ⊢;rw [Q7x];exact this
theorem Y6b {s:ByteArray} (h:s ∈ Q4q t):∃ i,i < t.size /\ s = t.nameAt i:=by
 unfold Q4q X0m X0z at h;unfold Tree.size Tree.nameAt
 rcases List.mem_append.1 h with h | h
 . obtain ⟨x,hx,rfl⟩:=List.mem_map.1 h
   obtain ⟨i,hi,rfl⟩:=List.getElem_of_mem hx;exact ⟨i,by omega,by rw [if_pos hi]; unfold bName; rw [getD_at hi]⟩
 . obtain ⟨x,hx,rfl⟩:=List.mem_map.1 h
   obtain ⟨i,hi,rfl⟩:=List.getElem_of_mem hx;exact ⟨t.basics.length + i,by omega,by rw [if_neg (by omega),Nat.add_sub_cancel_left]; unfold cName; rw [getD_at hi]⟩
theorem Z5s {a:Tree} (ha:∀ i,i < a.size -> (a.nameAt i).size <= 6) (hs:t.size <= 5):Q4g a (X5g t) = false:=by
 unfold Q4g;rw [List.any_eq_false];intro s hs1 hb;obtain ⟨i,hi,rfl⟩:=Y6b hs1;unfold Y6t at hb;rw [List.any_eq_true] at hb;obtain ⟨x,hx,he⟩:=hb;obtain ⟨j,hj,rfl⟩:=Y6b hx;have e:=ba_eq he;rw [Y3t] at hj;rw [X7m hj] at e;have h1:=ha i hi;rw [<- e] at h1;unfold Tree.size at hs hj
 split at h1
 . rw [X3z (by omega)] at h1; omega
 . rw [X3z (by omega)] at h1; omega
end
structure J6r (xn xd yn yd un ud vn vd:Int):Prop where
 rx:Q6c ⟨xn,xd⟩
 ry:Q6c ⟨yn,yd⟩
 bx:xn <= xd /\ xd <= 1048576
 by':yn <= yd /\ yd <= 1048576
 band:lowest (xn * yn) (xd * yd) = ⟨un,ud⟩
 bor:lowest (xd * yd - (xd - xn) * (yd - yn)) (xd * yd) = ⟨vn,vd⟩
theorem J7i {n:Nat} (h:n <= 5):(16:Int) ^ n <= 1048576:=by
 have:(16:Int) ^ n <= 16 ^ 5:=by
  have h2:16 ^ n <= 16 ^ 5:=Nat.pow_le_pow_right (by omega) h
  exact_mod_cast h2
 exact this
theorem X3w {t:Tree} (hv:Valid t) (hs:t.size <= 5) {n d:Int} (h:Q9j t t.Q0b = ⟨n,d⟩):Q6c ⟨n,d⟩ /\ n <= d /\ d <= 1048576:=by
 have hw:=Y2m hv.small (Q2k t);have hr:=Y8j (n:=t.size) hw.1 hw.2 rfl;unfold Q9j at h;rw [h] at hr;have h5:=J7i hs;obtain ⟨r1,r2,r3,r4,r5⟩:=hr;dsimp only at r1 r2 r3 r4 r5;exact ⟨⟨r1,by dsimp only; omega,r3,by dsimp only; omega⟩,r5,by omega⟩
section
variable {a o:Tree}
structure X9s (a o:Tree):Prop where
 ea:a.err = 0
 eo:o.err = 0
 sa:a.size <= 5
 so:o.size <= 5
 ga:a.gates.length <= 8
 go:o.gates.length <= 8
 tw:Q4g a o = false
theorem X9s.many (h:X9s a o):Q8f a o = false:=by
 have h1:=h.sa;have h2:=h.so;have h3:=h.ga;have h4:=h.go;unfold Tree.size at h1 h2;unfold Q8f;rw [Bool.or_eq_false_iff,decide_eq_false_iff_not,decide_eq_false_iff_not];omega
theorem X9s.err (h:X9s a o) {k:ByteArray} (hk:k = Q4v ∨ k = sOr):(Q0k a o k).err = 0:=Z7c h.ea h.eo hk h.tw h.many
theorem X9s.zero (h:X9s a o) {k:ByteArray} (hk:k = Q4v ∨ k = sOr):Q8x a o k = 0 /\ Y0k a o k = Q0k a o k:=by
 have hkk:(!(k == Q4v) && !(k == sOr)) = false:=by
  rcases hk with rfl | rfl
  . rw [Y3a]; rfl
  . rw [Y3a sOr]; simp
 have e:Q8x a o k = 0:=by
  unfold Q8x X1f Q3w;rw [h.ea,h.eo,hkk,h.tw,h.many];rfl
 exact ⟨e,by unfold Y0k; rw [if_pos e]⟩
theorem J7l (h:X9s a o) {xn xd yn yd un ud vn vd:Int} (hx:Q9j a a.Q0b = ⟨xn,xd⟩) (hy:Q9j o o.Q0b = ⟨yn,yd⟩)
    (hu:Q9j (Q0k a o Q4v) (Q0k a o Q4v).Q0b = ⟨un,ud⟩) (hv:Q9j (Q0k a o sOr) (Q0k a o sOr).Q0b = ⟨vn,vd⟩):J6r xn xd yn yd un ud vn vd:=by
 have va:=Valid.of h.ea;have vo:=Valid.of h.eo;have vand:=Valid.of (h.err (.inl rfl));have vor:=Valid.of (h.err (.inr rfl));have rx:=X3w va h.sa hx;have ry:=X3w vo h.so hy;refine ⟨rx.1,ry.1,rx.2,ry.2,?_,?_⟩
 . have e:=Z7z (W:=a.weight a.Q0b) (V:=o.weight o.Q0b) (X4p a.size) (X4p o.size)
   unfold Q9j at hx hy hu;rw [hx,hy] at e;rw [e,<- Z2q va vo vand,<- Int.pow_add,<- m_size (kind:=Q4v)];exact hu
 . have hw:=Z5r va vo vor
   rw [Int.pow_add] at hw;have e:=Z8z (W:=a.weight a.Q0b) (V:=o.weight o.Q0b) (X4p a.size) (X4p o.size) hw;unfold Q9j at hx hy hv;rw [hx,hy] at e;rw [e,<- Int.pow_add,<- m_size (kind:=sOr)];exact hv
theorem J0o {k:Nat} (hk:k < a.causes.length):J1p a (a.basics.length + k) = Q9j (Q4h a k) (Q4h a k).Q0b:=Z1y hk
structure J7r (xn xd yn yd:Int):Prop where
 a1:0 <= xn * yn /\ xn * yn <= 4611686018427387904
 a2:1 <= xd * yd /\ xd * yd <= 4611686018427387904
 a3:0 <= xd * yd - (xd - xn) * (yd - yn) /\ xd * yd - (xd - xn) * (yd - yn) <= 4611686018427387904
 w1:IntKind.i64.wrap (xn * yn) = xn * yn
 w2:IntKind.i64.wrap (xd * yd) = xd * yd
 w3:IntKind.i64.wrap (xd - xn) = xd - xn
 w4:IntKind.i64.wrap (yd - yn) = yd - yn
 w5:IntKind.i64.wrap ((xd - xn) * (yd - yn)) = (xd - xn) * (yd - yn)
 w6:IntKind.i64.wrap (xd * yd - (xd - xn) * (yd - yn)) = xd * yd - (xd - xn) * (yd - yn)
theorem J7p {xn xd yn yd un ud vn vd:Int} (h:J6r xn xd yn yd un ud vn vd):J7r xn xd yn yd:=by
 obtain ⟨x0,x1,x2,x3⟩:=h.rx;obtain ⟨y0,y1,y2,y3⟩:=h.ry;obtain ⟨bx1,bx2⟩:=h.bx;obtain ⟨by1,by2⟩:=h.by'
 dsimp only at x0 x1 x2 x3 y0 y1 y2 y3;have m1:=J6o x0 (show xn <= 1048576 by omega) y0 (show yn <= 1048576 by omega)
 have m2:=J6o (show 0 <= xd by omega) bx2 (show 0 <= yd by omega) by2
 have m2p:=J7e x2 y2;have m3:=J6o (show 0 <= xd - xn by omega) (show xd - xn <= xd by omega) (show 0 <= yd - yn by omega) (show yd - yn <= yd by omega)
 refine ⟨⟨m1.1,by omega⟩,⟨m2p,by omega⟩,⟨by omega,by omega⟩,?_,?_,?_,?_,?_,?_⟩ <;> exact Q6e _ (by omega) (by omega)
end
end Go.Proofs
namespace Go.Proofs
open Go.RowKit Go.Tw Go.Flow
attribute [local go_sem ↓] Q2s Q4d Q2n Q3r
def But (O:Nat) (w w':World):Prop:=w.heap.size <= w'.heap.size /\ ∀ b,b < w.heap.size -> b ≠ O -> w'.heap[b]? = w.heap[b]?
theorem But.blk {O:Nat} {w w':World} (h:But O w w') {b:Nat} {T:TypeId} {cs:Array Value} (hb:Blk w b T cs) (hne:b ≠ O):Blk w' b T cs:=by
 have hl:=hb.lt;unfold Blk at *;rw [h.2 b hl hne]; exact hb
theorem But.keep {O:Nat} {T:TypeId} {cs:Array Value} {w w':World} (h:But O w w') (hO:Blk w O T cs):Keep T w w':=fun _ _ _ hS hb=>h.blk hb (Q2f hb hO hS)
theorem But.refl (O:Nat) (w:World):But O w w:=⟨Nat.le_refl _,fun _ _ _=>rfl⟩
theorem J5j (W0 WB:World) (a b:Tree) (kind:ByteArray) (Ba Bb R Y O:Nat) (xa1 xb1 y1 y2:Value) (Aa Ga Bbs Gb Ab Ac Ag Gy:Option Addr) (ca cga cbb cgb cb cc nc cgy:Nat) (LC LG LY:List (ByteArray × Int × Value))
    (hst:X6j (Q0k a b kind)) (hsa:a.basics.length + b.basics.length <= 900) (hsg:a.gates.length + b.gates.length <= 900) (hab:a.basics.length + a.gates.length <= 900) (hnb:0 < a.basics.length) (hlg:LG.length = a.gates.length)
    (hin:∀ k,k < b.gates.length -> (Q0j b.gates k).length <= 1000 /\ ∀ x ∈ Q0j b.gates k,0 <= x /\ x < 1000)
    (k3:Blk WB Ba 33 #[.slice Aa a.basics.length ca,xa1,.slice Ga a.gates.length cga]) (k4:Blk WB Bb 33 #[.slice Bbs b.basics.length cbb,xb1,.slice Gb b.gates.length cgb])
    (kR:Blk WB R 33 #[.slice none 0 0,.slice none 0 0,.slice none 0 0]) (kY:Blk WB Y 33 #[y1,y2,.slice Gy b.gates.length cgy]) (kO:Blk WB O 33 #[.slice Ab (a.basics.length + b.basics.length) cb,.slice Ac nc cc,.slice Ag LG.length LG.length])
    (hvb:Q1o WB 0 103 2 Q9x (.slice Ab (a.basics.length + b.basics.length) cb) (a.basics ++ b.basics)) (hvc:Q1o WB 0 106 3 enc3 (.slice Ac nc cc) LC) (htc:Q8r WB LC ((a.causes ++ b.causes.map (Q3m a.basics.length b.basics.length)).map Y4m))
    (hvg:Q1o WB 0 114 3 enc3 (.slice Ag LG.length LG.length) LG) (htg:Q8r WB LG ((a.gates.map (Q2d a.basics.length b.basics.length)).map X6f))
    (hvy:Q1o WB 0 114 3 enc3 (.slice Gy b.gates.length cgy) LY) (hty:Q8r WB LY (b.gates.map X6f))
    (hRO:R ≠ O) (hAO:Ba ≠ O) (hBO:Bb ≠ O) (hYO:Y ≠ O) (h0R:W0.heap.size <= R) (h0O:W0.heap.size <= O) (hx0:Ext W0 WB) (ua ub uc ud ue uf ug uh ui uj uk ul um un uo up uq ur us ut uu uv uw ux uy uz uA uB uC uD uE uF uG uH uI uJ uK uL uM uN uO uP uQ uR uS uT uU uV uW uX uY uZ u2 u3 u4 u6 Ua Ub Uc Ud Ue Uf Ug Uh Ui Uj Uk Ul Um Un Uo Up Uq Ur Us Ut Uu Uv Uw Ux Uy Uz UA UB UC UD UE UF UG UH UI UJ UK UL UM UN UO UP UQ UR US UT UU UV UW UX UY UZ U0 U1 U2 U3 U4 U5 U6 U7 U8 U9 ya yb yc yd ye yf yg yh yi yj yk yl ym yn yo yp yq yr ys yt yu yv yw yx yy yz yA yB yC yD yE yF yG yH yI yJ yK yL yM yN yO yP yQ yR yS yT yU yV yW yX yY yZ y0 y3 y4 y5 y6 y7 y8 y9 Ya Yb Yc Yd Ye Yf Yg Yh Yi Yj Yk Yl Ym Yn Yo:Value) :
    (codeFrom Tryz.f9 21).wp Tryz.prog (bodyPost Tryz.prog Tryz.f9 (fun e w'=>∃ u,e = .returned (.tuple #[u,.int .i64 0]) /\ Q7q 33 w' u (Q0k a b kind) /\ Ext W0 w')) ⟨#[ua,ub,.string kind,.pointer (some ⟨Ba,0,none⟩),.pointer (some ⟨Bb,0,none⟩),uc,.pointer (some ⟨R,0,none⟩),ud,ue,uf,ug,uh,.pointer (some ⟨Y,0,none⟩),.pointer (some ⟨O,0,none⟩),ui,uj,uk,ul,um,un,uo,up,uq,ur,us,ut,uu,uv,uw,ux,uy,uz,uA,uB,uC,uD,uE,uF,uG,uH,uI,uJ,uK,uL,uM,uN,uO,uP,uQ,uR,uS,uT,uU,uV,uW,uX,uY,uZ,u2,u3,u4,u6,Ua,Ub,Uc,Ud,Ue,Uf,Ug,Uh,Ui,Uj,Uk,Ul,Um,Un,Uo,Up,Uq,Ur,Us,Ut,Uu,Uv,Uw,Ux,Uy,Uz,UA,UB,UC,UD,UE,UF,UG,UH,UI,UJ,UK,UL,UM,UN,UO,UP,UQ,UR,US,UT,UU,UV,UW,UX,UY,UZ,U0,U1,U2,U3,U4,U5,U6,U7,U8,U9,ya,yb,yc,yd,ye,yf,yg,yh,yi,yj,yk,yl,ym,yn,yo,yp,yq,yr,ys,yt,yu,yv,yw,yx,yy,yz,yA,yB,yC,yD,yE,yF,yG,yH,yI,yJ,yK,yL,yM,yN,yO,yP,yQ,yR,yS,yT,yU,yV,yW,yX,yY,yZ,y0,y3,y4,y5,y6,y7,y8,y9,Ya,Yb,Yc,Yd,Ye,Yf,Yg,Yh,Yi,Yj,Yk,Yl,Ym,Yn,Yo],[]⟩ WB:=by
 conv=>arg 2; whnf
 have c2:=kY.cell 2;simp only [Go.Tw.gA,Go.Tw.gB,Go.Tw.gC] at c2;obtain ⟨ig,hi,hz0,hz1,hz2⟩:=info_parts Tryz.Z9g;have HST:=Lib.hid hst;have HIN:=Lib.hid hin;have KA:=Lib.hid k3;have KB:=Lib.hid k4;have KR:=Lib.hid kR;have KO:=Lib.hid kO;have HVB:=Lib.hid hvb;have HVC:=Lib.hid hvc;have HTC:=Lib.hid htc;have HVY:=Lib.hid hvy;have HTY:=Lib.hid hty;have HLG:=Lib.hid hlg;have hlyl:LY.length = b.gates.length:=by rw [hty.1,List.length_map]
 have HLY:=Lib.hid hlyl;have hstart:Y3u WB WB.heap.size 114 3 enc3 (.slice Ag LG.length LG.length) LG:=.inr ⟨hvg,_,rfl⟩;obtain ⟨M,hM⟩:∃ n,WB.heap.size = n:=⟨_,rfl⟩;have HM:=Lib.hid hM;rw [hM] at hstart;have HS0:=Lib.hid hstart;have HTG:=Lib.hid htg;have HX0:=Lib.hid hx0;clear hst hin k3 k4 kR kY kO hvb hvc htc hvg htg hvy hty hlg hlyl hstart hM hx0;go_wp2;clear c2
 go_loopw [145] (fun i wr=>∃ (k:Nat) (bG:Option Addr) (cG:Nat) (L:List (ByteArray × Int × Value)),k <= b.gates.length /\ i = .int .i64 k /\ L.length = LG.length + k /\ Blk wr O 33 #[.slice Ab (a.basics.length + b.basics.length) cb,.slice Ac nc cc,.slice bG L.length cG] /\ Y3u wr M 114 3 enc3 (.slice bG L.length cG) L /\ Q8r wr L ((a.gates.map (Q2d a.basics.length b.basics.length) ++ (b.gates.map (Q3l a.basics.length b.basics.length a.gates.length)).take k).map X6f) /\ But O WB wr /\ Ext W0 wr) (fun i _=>b.gates.length - (intOf i).toNat)
 case atStart=>exact ⟨0,Ag,LG.length,LG,Nat.zero_le _,rfl,rfl,KO.out,HS0.out,by simpa using HTG.out,But.refl _ _,HX0.out⟩
 case round =>
  obtain ⟨k,bG,cG,L,hk,rfl,hlen,hblk,hown,htri,hbut,hx⟩:=hrel;have HLEN:=Lib.hid hlen;have HBK:=Lib.hid hblk;have HOW:=Lib.hid hown;have HTR:=Lib.hid htri;have HBT:=Lib.hid hbut;have HX:=Lib.hid hx;clear hlen hblk hown htri hbut hx
  by_cases hlt:k < b.gates.length
  . skip
    have hkl:k < LY.length:=by rw [HLY.out]; exact hlt
    obtain ⟨gy,cpy,cury,hey,_,hby,_,_,_,htky⟩:=X1c HVY.out (by omega)
    rw [HLY.out] at hey;injection hey with hey1 _ hey3;subst hey1 hey3;obtain ⟨t1,t2,t3⟩:=HTY.out.2 k hkl (by rw [List.length_map]; exact hlt)
    have hin:=HIN.out k hlt;unfold Q0j at hin;rw [getD_at hlt] at hin;obtain ⟨g0,hg0⟩:∃ x,b.gates[k] = x:=⟨_,rfl⟩;simp only [List.getElem_map,X6f] at t1 t2 t3;rw [hg0] at t1 t2 t3 hin;have hby2:=HBT.out.blk hby (Q2f hby KO.out (by decide))
    have e0:=Q6d Q0s hby2 htky hkl (j:=0) (by omega)
    have e1:=Q6d Q0s hby2 htky hkl (j:=1) (by omega)
    have e2:=Q6d Q0s hby2 htky hkl (j:=2) (by omega)
    simp only [enc3,List.getElem?_cons_zero,List.getElem?_cons_succ,Nat.add_zero] at e0 e1 e2;obtain ⟨A3,cap3,e9,_⟩:=Q0t.shape t3;rw [t1] at e0;rw [t2] at e1;rw [e9] at e2;have hyr:=Q3x t3 (by decide) (HBT.out.keep KO.out)
    rw [e9] at hyr;have hle:g0.inputs.length <= 1000:=hin.1;obtain ⟨nm,hnm⟩:∃ x,g0.kind = x:=⟨_,rfl⟩;obtain ⟨ch,hch⟩:∃ x,g0.need = x:=⟨_,rfl⟩;obtain ⟨ml,hml⟩:∃ x,g0.inputs = x:=⟨_,rfl⟩;rw [hnm] at e0;rw [hch] at e1;rw [hml] at e2 hyr hin hle;have HG0:Hid (g0 = ⟨nm,ch,ml⟩):=Lib.hid (by rw [<- hnm,<- hch,<- hml])
    have HGK:=Lib.hid hg0;have HMI:=Lib.hid hin;have xb:=Ext.box wr (.cells #[.string nm,.int .i64 ch,.slice A3 ml.length cap3] 114);have kb:=Blk.made wr 114 #[.string nm,.int .i64 ch,.slice A3 ml.length cap3];have HM2:=Lib.hid ((hyr.below xb).ints (by omega))
    have HOW5:=Lib.hid (HOW.out.ext xb);have HBK5:=Lib.hid (HBK.out.ext xb);have HTR5:=Lib.hid (HTR.out.ext xb);have KA5:=Lib.hid ((HBT.out.blk KA.out hAO).ext xb);have KB5:=Lib.hid ((HBT.out.blk KB.out hBO).ext xb);have hOl:=HBK.out.lt;have hkI:(k:Int) < b.gates.length:=by omega
    have hMr:M <= wr.heap.size:=by rw [<- HM.out]; exact HBT.out.1
    have hLl:L.length <= 900:=by have:=HLEN.out; have:=HLG.out; omega
    have hadd:IntKind.i64.wrap ((a.basics.length:Int) + (a.gates.length:Int)) = (a.basics.length:Int) + (a.gates.length:Int):=wrap_in (by omega) (by omega)
    clear hin hnm hch hml hg0 hyr t1 t2 t3 hby hby2 htky hkl e9 xb HOW HTR
    go_light
    go_wp2;obtain ⟨W5,hW5⟩:∃ X,wr.alloc (.cells #[.string nm,.int .i64 ch,.slice A3 ml.length cap3] 114) = X:=⟨_,rfl⟩;have hs5:W5.heap.size = wr.heap.size + 1:=by rw [<- hW5]; simp
    have HX5:Hid (Ext wr W5):=Lib.hid (by rw [<- hW5]; exact Ext.box wr _)
    rw [hW5] at HM2 HOW5 HBK5 HTR5 KA5 KB5 kb ⊢;have KG:=Lib.hid kb;have hdr:=(Ext.refl W5).drew;clear hW5 kb e0 e1 e2;refine Flow.Q3s [.p,.w,.p,.w,.p,.w,.p,.w,.p,.w,.p,.p,.w,.p,.p,.w,.p,.p,.w,.p,.p,.w,.p,.w,.last,.last,.last] [0,1,2,3,4,5,6,7,8,9,10,11,12,13,14,15,16,17,18,19,20,21,22,23,24,25,26] [[],[0],[],[2],[],[4],[],[6],[],[8],[8,9],[],[11],[11,12],[],[14],[14,15],[],[17],[17,18],[14,15,16,17,18,19],[6,7,8,9,10,11,12,13,14,15,16,17,18,19,20],[2,3,4,5,6,7,8,9,10,11,12,13,14,15,16,17,18,19,20,21],[2,3,4,5,6,7,8,9,10,11,12,13,14,15,16,17,18,19,20,21,22],[0,1,2,3,4,5,6,7,8,9,10,11,12,13,14,15,16,17,18,19,20,21,22,23],[0,1,2,3,4,5,6,7,8,9,10,11,12,13,14,15,16,17,18,19,20,21,22,23,24],[0,1,2,3,4,5,6,7,8,9,10,11,12,13,14,15,16,17,18,19,20,21,22,23,24,25]] [24,25,26]
     [.c 0 (.pointer (some ⟨O,2,none⟩)),.c 1 (.slice bG L.length cG),.c 2 (.pointer (some ⟨wr.heap.size,0,none⟩)),.c 3 (.string nm),.c 4 (.pointer (some ⟨wr.heap.size,1,none⟩)),.c 5 (.int .i64 ch),.c 6 (.pointer (some ⟨wr.heap.size,2,none⟩)),.c 7 (.slice A3 ml.length cap3),.c 8 (.pointer (some ⟨Bb,0,none⟩)),.c 9 (.slice Bbs b.basics.length cbb),.c 10 (.int .i64 ((b.basics.length:Nat):Int)),.c 11 (.pointer (some ⟨Ba,0,none⟩)),.c 12 (.slice Aa a.basics.length ca),.c 13 (.int .i64 ((a.basics.length:Nat):Int)),.c 14 (.pointer (some ⟨Ba,0,none⟩)),.c 15 (.slice Aa a.basics.length ca),.c 16 (.int .i64 ((a.basics.length:Nat):Int)),.c 17 (.pointer (some ⟨Ba,2,none⟩)),.c 18 (.slice Ga a.gates.length cga),.c 19 (.int .i64 ((a.gates.length:Nat):Int)),.c 20 (.int .i64 ((a.basics.length:Int) + (a.gates.length:Int))),⟨fun v wz=>(fun v w'=>Q0t w' 0 3 (.int .i64) (v 21) (Q2p b.basics.length a.basics.length (a.basics.length + a.gates.length) ml)) v wz,fun _ _ _ hx h=>Q0t.below h hx⟩,⟨fun v wz=>(fun v w'=>v 22 = .agg #[.string nm,.int .i64 ch,v 21]) v wz,by intro _ _ _ _ h; exact h⟩,⟨fun v wz=>(fun v w'=>∃ g,v 23 = .slice (some ⟨g,0,none⟩) 1 1 /\ Blk w' g 114 (enc3 (nm,ch,v 21)).toArray) v wz,by rintro v a b hx ⟨g,h1,h2⟩; exact ⟨g,h1,h2.ext hx⟩⟩,.none,.none,.none]
     [fun v w1 w'=>Q1o w' M 114 3 enc3 (v 24) (L ++ [(nm,ch,v 21)]) /\ Keep 114 w1 w' /\ Below M w1 w',fun v w1 w'=>v 25 = .pointer (some ⟨O,2,none⟩) /\ Q1o w' M 114 3 enc3 (v 24) (L ++ [(nm,ch,v 21)]) /\ Keep 114 w1 w' /\ Below M w1 w',fun v w1 w'=>∃ x wm,Q1o wm M 114 3 enc3 x (L ++ [(nm,ch,v 21)]) /\ Keep 114 w1 wm /\ Below M w1 wm /\ w' = wm.setCell ⟨O,2,none⟩ x] (by kernel_rfl) rfl (by kernel_rfl) ⟨?g0,?g1,?g2,?g3,?g4,?g5,?g6,?g7,?g8,?g9,?g10,?g11,?g12,?g13,?g14,?g15,?g16,?g17,?g18,?g19,?g20,?g21,?g22,?g23,?g24,?g25,?g26,trivial⟩ ?post
    case g0 | g2 | g4 | g6 | g8 | g11 | g14 | g17=>
     intro v w1 hx;intro bb hbb;subst hbb;refine ⟨_,fun w=>?_,rfl⟩;go_simp
    case g1 | g3 | g5 | g7 | g9 | g12 | g15 | g18=>
     intro v w1 hx;(repeat intro (zq:v _ = _));intro bb hbb;subst hbb;have n0:w1.cell? ⟨O,2,none⟩ = some (.slice bG L.length cG):=(HBK5.out.ext (hdr.trans hx)).cell 2;have n1:w1.cell? ⟨wr.heap.size,0,none⟩ = some (.string nm):=(KG.out.ext (hdr.trans hx)).cell 0;have n2:w1.cell? ⟨wr.heap.size,1,none⟩ = some (.int .i64 ch):=(KG.out.ext (hdr.trans hx)).cell 1;have n3:w1.cell? ⟨wr.heap.size,2,none⟩ = some (.slice A3 ml.length cap3):=(KG.out.ext (hdr.trans hx)).cell 2;have n4:w1.cell? ⟨Bb,0,none⟩ = some (.slice Bbs b.basics.length cbb):=(KB5.out.ext (hdr.trans hx)).cell 0;have n5:w1.cell? ⟨Ba,0,none⟩ = some (.slice Aa a.basics.length ca):=(KA5.out.ext (hdr.trans hx)).cell 0;have n6:w1.cell? ⟨Ba,2,none⟩ = some (.slice Ga a.gates.length cga):=(KA5.out.ext (hdr.trans hx)).cell 2;intro K hK;go_simp;exact hK _ _ (Ext.refl _) rfl
    case g10 | g13 | g16 | g19 | g20=>
     intro v w1 hx;(repeat intro (zq:v _ = _));intro bb hbb;subst hbb;refine ⟨_,fun w=>?_,rfl⟩;go_simp
    case g21=>
     intro v w1 hx;(repeat intro (zq:v _ = _));intro bb hbb;subst hbb;intro K hK;go_simp;refine Q0d (X9n w1 _ ml _ _ _ (HM2.out.ext (hdr.trans hx)) (by omega) HMI.out.2 (by omega) (by omega)) ?_
     rintro e w2 ⟨u,rfl,hown,hx2⟩;exact ⟨_,rfl,hK _ _ hx2 (Q0t.weaken hown (Nat.zero_le _))⟩
    case g22=>
     intro v w1 hx (q2:v 2 = _) (q3:v 3 = _) (q4:v 4 = _) (q5:v 5 = _) (q6:v 6 = _) (q7:v 7 = _) (q8:v 8 = _) (q9:v 9 = _) (q10:v 10 = _) (q11:v 11 = _) (q12:v 12 = _) (q13:v 13 = _) (q14:v 14 = _) (q15:v 15 = _) (q16:v 16 = _) (q17:v 17 = _) (q18:v 18 = _) (q19:v 19 = _) (q20:v 20 = _) (q21:(fun v w'=>Q0t w' 0 3 (.int .i64) (v 21) (Q2p b.basics.length a.basics.length (a.basics.length + a.gates.length) ml)) v w1);intro bb hbb;obtain ⟨s9,c9,e9,_⟩:=Q0t.shape q21;have o1:bb.eval (.tmp 152) = .string nm:=by rw [hbb]; dsimp only; (try simp (discharger:=decide) only [eval_put_ne]); rw [Q0a (by simp only [size_put]; exact (by decide:152 < 199))]; exact q3
     have o2:bb.eval (.tmp 154) = .int .i64 ch:=by rw [hbb]; dsimp only; (try simp (discharger:=decide) only [eval_put_ne]); rw [Q0a (by simp only [size_put]; exact (by decide:154 < 199))]; exact q5
     have o3:bb.eval (.tmp 170) = v 21:=by rw [hbb]; dsimp only; (try simp (discharger:=decide) only [eval_put_ne]); rw [Q0a (by simp only [size_put]; exact (by decide:170 < 199))]
     rw [e9] at o3;exact ⟨_,fun w=>Q5u _ (.tmp 152) (.tmp 154) (.tmp 170) rfl o1 o2 o3 (fun w=>Q2s w _ _ _ _ _),by show Value.agg #[.string nm,.int .i64 ch,.slice s9 _ c9] = Value.agg #[.string nm,.int .i64 ch,v 21]; rw [e9]⟩
    case g23=>
     intro v w1 hx (q2:v 2 = _) (q3:v 3 = _) (q4:v 4 = _) (q5:v 5 = _) (q6:v 6 = _) (q7:v 7 = _) (q8:v 8 = _) (q9:v 9 = _) (q10:v 10 = _) (q11:v 11 = _) (q12:v 12 = _) (q13:v 13 = _) (q14:v 14 = _) (q15:v 15 = _) (q16:v 16 = _) (q17:v 17 = _) (q18:v 18 = _) (q19:v 19 = _) (q20:v 20 = _) (q21:(fun v w'=>Q0t w' 0 3 (.int .i64) (v 21) (Q2p b.basics.length a.basics.length (a.basics.length + a.gates.length) ml)) v w1) (q22:(fun v w'=>v 22 = .agg #[.string nm,.int .i64 ch,v 21]) v w1);intro bb hbb;intro K hK;obtain ⟨s9,c9,e9,_⟩:=Q0t.shape q21;have o1:bb.eval (.tmp 171) = .agg #[.string nm,.int .i64 ch,v 21]:=by rw [hbb]; dsimp only; (try simp (discharger:=decide) only [eval_put_ne]); rw [Q0a (by simp only [size_put]; exact (by decide:171 < 199))]; exact q22
     rw [e9] at o1;have hbl:Blk (w1.alloc (.cells (Value.agg #[.string nm,.int .i64 ch,.slice s9 (Q2p (b.basics.length:Int) a.basics.length (a.basics.length + a.gates.length) ml).length c9]).cells 114)) w1.heap.size 114 (enc3 (nm,ch,v 21)).toArray:=by rw [e9]; exact Blk.made _ _ _
     exact Q4x 31 114 (.tmp 171) rfl o1 (Q4d w1 _ _ _ _ _) (hK _ _ (Ext.box _ _) ⟨_,rfl,hbl⟩)
    case g24=>
     intro v w1 hx (q0:v 0 = _) (q1:v 1 = _) (q2:v 2 = _) (q3:v 3 = _) (q4:v 4 = _) (q5:v 5 = _) (q6:v 6 = _) (q7:v 7 = _) (q8:v 8 = _) (q9:v 9 = _) (q10:v 10 = _) (q11:v 11 = _) (q12:v 12 = _) (q13:v 13 = _) (q14:v 14 = _) (q15:v 15 = _) (q16:v 16 = _) (q17:v 17 = _) (q18:v 18 = _) (q19:v 19 = _) (q20:v 20 = _) (q21:(fun v w'=>Q0t w' 0 3 (.int .i64) (v 21) (Q2p b.basics.length a.basics.length (a.basics.length + a.gates.length) ml)) v w1) _ (q23:(fun v w'=>∃ g,v 23 = .slice (some ⟨g,0,none⟩) 1 1 /\ Blk w' g 114 (enc3 (nm,ch,v 21)).toArray) v w1);intro wl hT;obtain rfl:wl = w1:=hT;intro bb hbb;intro K hK;obtain ⟨s9,c9,e9,_⟩:=Q0t.shape q21;obtain ⟨g,hg10,hb10⟩:=q23;have o1:bb.eval (.tmp 150) = .slice bG L.length cG:=by rw [hbb]; dsimp only; (try simp (discharger:=decide) only [eval_put_ne]); rw [Q0a (by simp only [size_put]; exact (by decide:150 < 199))]; exact q1
     have o2:bb.eval (.tmp 172) = .slice (some ⟨g,0,none⟩) 1 1:=by rw [hbb]; dsimp only; (try simp (discharger:=decide) only [eval_put_ne]); rw [Q0a (by simp only [size_put]; exact (by decide:172 < 199))]; exact hg10
     have hxx:=hdr.trans hx;exact Q9y _ _ 31 rfl M 114 ig (.agg #[.string emp,.int .i64 0,.slice none 0 0]) 3 48 Tryz.underlying31 hi hz0 hz1 hz2 rfl (by decide) enc3 Q0s _ L (nm,ch,v 21) o1 (HOW5.out.ext hxx) ⟨g,0,none⟩ o2 (Q7u hb10) (by rw [e9]; exact X7j) (by omega) (by decide) (by have:=hxx.size; omega) (fun v' w' h1 h2 h3=>hK _ _ ⟨h1,h2,h3⟩)
    case g25=>
     intro v w1 hx (q0:v 0 = _) (q1:v 1 = _) (q2:v 2 = _) (q3:v 3 = _) (q4:v 4 = _) (q5:v 5 = _) (q6:v 6 = _) (q7:v 7 = _) (q8:v 8 = _) (q9:v 9 = _) (q10:v 10 = _) (q11:v 11 = _) (q12:v 12 = _) (q13:v 13 = _) (q14:v 14 = _) (q15:v 15 = _) (q16:v 16 = _) (q17:v 17 = _) (q18:v 18 = _) (q19:v 19 = _) (q20:v 20 = _) _ _ _;intro wl hT;replace hT:(fun v w1 w'=>Q1o w' M 114 3 enc3 (v 24) (L ++ [(nm,ch,v 21)]) /\ Keep 114 w1 w' /\ Below M w1 w') v w1 wl:=hT;intro bb hbb;subst hbb;intro K hK;go_simp;exact hK _ _ ⟨rfl,hT⟩
    case g26=>
     intro v w1 hx (q0:v 0 = _) (q1:v 1 = _) (q2:v 2 = _) (q3:v 3 = _) (q4:v 4 = _) (q5:v 5 = _) (q6:v 6 = _) (q7:v 7 = _) (q8:v 8 = _) (q9:v 9 = _) (q10:v 10 = _) (q11:v 11 = _) (q12:v 12 = _) (q13:v 13 = _) (q14:v 14 = _) (q15:v 15 = _) (q16:v 16 = _) (q17:v 17 = _) (q18:v 18 = _) (q19:v 19 = _) (q20:v 20 = _) _ _ _;intro wl hT;replace hT:(fun v w1 w'=>v 25 = .pointer (some ⟨O,2,none⟩) /\ Q1o w' M 114 3 enc3 (v 24) (L ++ [(nm,ch,v 21)]) /\ Keep 114 w1 w' /\ Below M w1 w') v w1 wl:=hT;intro bb hbb;intro K hK;obtain ⟨hT0,hT1,hT2,hT3⟩:=hT;have hxx:=hdr.trans hx;obtain ⟨bp,cp,hsh,_⟩:=hT1.shape;have o1:bb.eval (.tmp 174) = .pointer (some ⟨O,2,none⟩):=by rw [hbb]; dsimp only; (try simp (discharger:=decide) only [eval_put_ne]); rw [Q0a (by simp only [size_put]; exact (by decide:174 < 199))]; exact hT0
     have o2:bb.eval (.tmp 173) = v 24:=by rw [hbb]; dsimp only; (try simp (discharger:=decide) only [eval_put_ne]); rw [Q0a (by simp only [size_put]; exact (by decide:173 < 199))]
     have hbl:=hT2 _ _ _ (by decide) (HBK5.out.ext hxx)
     exact Q3a _ _ rfl Tryz.Y6d (g:=O) (k:=2) o1 o2 (by rw [hsh]; rfl) (by rw [hsh]; rfl) hbl (by show 2 < 3; omega) (fun v'=>hK _ _ ⟨v 24,wl,hT1,hT2,hT3,rfl⟩)
    case post =>
     intro v w1 hx;(iterate 21 intro (zq:v _ = _));intro (q21:(fun v w'=>Q0t w' 0 3 (.int .i64) (v 21) (Q2p b.basics.length a.basics.length (a.basics.length + a.gates.length) ml)) v w1) (q22:(fun v w'=>v 22 = .agg #[.string nm,.int .i64 ch,v 21]) v w1) (q23:(fun v w'=>∃ g,v 23 = .slice (some ⟨g,0,none⟩) 1 1 /\ Blk w' g 114 (enc3 (nm,ch,v 21)).toArray) v w1);intro w2 hE;replace hE:(fun v w1 w'=>∃ x wm,Q1o wm M 114 3 enc3 x (L ++ [(nm,ch,v 21)]) /\ Keep 114 w1 wm /\ Below M w1 wm /\ w' = wm.setCell ⟨O,2,none⟩ x) v w1 w2:=hE;simp only [Flow.acts,Act.put];go_simp;obtain ⟨x,wm,hom,hkm,hbm,rfl⟩:=hE;have hxx:=hdr.trans hx;have hbO:=hkm _ _ _ (by decide) (HBK5.out.ext hxx)
     have hOM:O < M:=by have:=KO.out.lt; have:=HM.out; omega
     have hset:∀ n,n <= O -> Below n wm (wm.setCell ⟨O,2,none⟩ x):=fun n hn=>(Below.refl n _).setCell (p:=⟨O,2,none⟩) hn x;have hks:Keep 33 wm (wm.setCell ⟨O,2,none⟩ x):=Keep.store hbO fun _ hj=>Below.heap_setCell _ _ _ _ hj;obtain ⟨bp,cp,hsh,_⟩:=hom.shape;have HB6:=Lib.hid (hbO.set 2 x);have HO6:Hid (Y3u (wm.setCell ⟨O,2,none⟩ x) M 114 3 enc3 x (L ++ [(nm,ch,v 21)])):=Lib.hid (.inl (hom.setCell (p:=⟨O,2,none⟩) hOM x));have HT6:=Lib.hid ((((HTR5.out.ext hxx).keep (by decide) hkm).snoc nm ch (Q3x q21 (by decide) hkm)).keep (by decide) hks)
     have HX6:Hid (Ext W0 (wm.setCell ⟨O,2,none⟩ x)):=Lib.hid (Below.trans (Below.trans ((HX.out.trans HX5.out).trans hxx) (Below.mono hbm (by have:=HX0.out.size; have:=HM.out; omega))) (hset _ h0O))
     have HBT6:Hid (But O WB (wm.setCell ⟨O,2,none⟩ x)):=Lib.hid (⟨by have h1:=HBT.out.1; have h2:=HX5.out.size; have h3:=hxx.size; have h4:=hbm.size; have h5:=(hset 0 (Nat.zero_le _)).size; omega,fun c hc hne=>by
      have hcM:c < M:=by have:=HM.out; omega
      have hcr:c < wr.heap.size:=by omega
      rw [Below.heap_setCell _ _ _ _ hne,hbm.block c hcM,hxx.block c (by omega),HX5.out.block c hcr]
      exact HBT.out.2 c hc hne⟩)
     have etake:(a.gates.map (Q2d a.basics.length b.basics.length) ++ (b.gates.map (Q3l a.basics.length b.basics.length a.gates.length)).take (k + 1)).map X6f = (a.gates.map (Q2d a.basics.length b.basics.length) ++ (b.gates.map (Q3l a.basics.length b.basics.length a.gates.length)).take k).map X6f ++ [(nm,ch,Q2p b.basics.length a.basics.length (a.basics.length + a.gates.length) ml)]:=by
      rw [List.take_add_one,List.getElem?_eq_getElem (by simpa using hlt)]
      simp only [Option.toList_some,List.getElem_map,HGK.out,HG0.out,Q3l,List.map_append,List.append_assoc];rfl
     rw [<- etake] at HT6;rw [hsh] at HB6 HO6;obtain ⟨w6,hw6⟩:∃ y,wm.setCell ⟨O,2,none⟩ x = y:=⟨_,rfl⟩;rw [hw6] at HX6 HT6 HBT6 ⊢;rw [<- hsh,hw6,hsh] at HB6 HO6;obtain ⟨L6,hL6⟩:∃ y,L ++ [(nm,ch,v 21)] = y:=⟨_,rfl⟩;rw [hL6] at HB6 HO6 HT6;have hl6:L6.length = LG.length + (k + 1):=by rw [<- hL6,List.length_append,HLEN.out]; rfl
     clear hom hkm hbm hbO hset hks hsh hw6 hL6 etake hxx hx hdr q21 q22 q23;(repeat clear zq);go_wp2;go_roundw
     case rel=>exact ⟨k + 1,bp,cp,L6,by omega,by go_num,hl6,HB6.out,HO6.out,HT6.out,HBT6.out,HX6.out⟩
     case measure=>simp [intOf]; omega
  . obtain rfl:k = b.gates.length:=by omega
    have HTR2:Hid (Q8r wr L ((a.gates.map (Q2d a.basics.length b.basics.length) ++ b.gates.map (Q3l a.basics.length b.basics.length a.gates.length)).map X6f)):=Lib.hid (by have h:=HTR.out; rw [List.take_of_length_le (by simp)] at h; exact h)
    clear HTR;go_upto_if 146 with fail
    go_step
    go_step
    go_step
    go_step
    go_step
    go_step
    have hkp:=HBT.out.keep KO.out;exact J4j W0 wr a b kind M Bb R O _ _ Gb Ab Ac bG cgb cb cc cG nc LC L HST.out (by omega) hsg hnb (by rw [HLEN.out,HLG.out]) (HBT.out.blk KB.out hBO) (HBT.out.blk KR.out hRO) HBK.out (Q1k HVB.out (by decide) hkp) (Q1k HVC.out (by decide) hkp) (HTC.out.keep (by decide) hkp) HOW.out HTR2.out hRO (by rw [<- HM.out]; exact HBT.out.1) h0R h0O (by rw [<- HM.out]; exact HX0.out.size) HX.out _ _ _ _ _ _ _ _ _ _ _ _ _ _ _ _ _ _ _ _ _ _ _ _ _ _ _ _ _ _ _ _ _ _ _ _ _ _ _ _ _ _ _ _ _ _ _ _ _ _ _ _ _ _ _ _ _ _ _ _ _ _ _ _ _ _ _ _ _ _ _ _ _ _ _ _ _ _ _ _ _ _ _ _ _ _ _ _ _ _ _ _ _ _ _ _ _ _ _ _ _ _ _ _ _ _ _ _ _ _ _ _ _ _ _ _ _ _ _ _ _ _ _ _ _ _ _ _ _ _ _ _ _ _ _ _ _ _ _ _ _ _ _ _ _ _ _ _ _ _ _ _ _ _ _ _ _ _ _ _ _ _ _ _ _ _ _ _ _ _ _ _ _ _ _ _ _ _ _ _ _ _ _ _ _ _ _ _ _ _ _ _ _ _ _
end Go.Proofs
