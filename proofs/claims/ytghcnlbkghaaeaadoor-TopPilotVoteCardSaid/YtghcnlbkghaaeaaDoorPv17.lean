/- Worlds that differ from an earlier one in one block alone; slices of structs appended to in such a world. Small facts for slices of basics and of gates. Contract: pilotSensors. Contracts of small functions of the gate: when, first, within. Contract of the gate's Vote. The program's weight of a tree is the reference's: plain sums. The program's functions at the tree of the sensors. -/
import Derived.Test.YtghcnlbkghaaeaaDoorPv06
import Derived.Test.YtghcnlbkghaaeaaDoorPv16
import Derived.Deep.DeepMust
import Derived.Test.YtghcnlbkghaaeaaDoorPv12
import Derived.Test.YtghcnlbkghaaeaaDoorPv14
import Derived.Test.YtghcnlbkghaaeaaDoorPv03
import Derived.Test.YtghcnlbkghaaeaaDoorPv11
import Derived.Test.YtghcnlbkghaaeaaDoorPv13
set_option maxRecDepth 1000000
set_option maxHeartbeats 64000000
set_option linter.unusedVariables false
set_option linter.unusedSimpArgs false
set_option linter.constructorNameAsVariable false
namespace Go.Tw
open Go.RowKit Go.Flow
def Off (O:Nat) (w w':World):Prop:=Below O w w' /\ w.heap.size <= w'.heap.size /\ ∀ b,b < w.heap.size -> b ≠ O -> w'.heap[b]? = w.heap[b]?
theorem Off.refl (O:Nat) (w:World):Off O w w:=⟨Below.refl _ _,Nat.le_refl _,fun _ _ _=>rfl⟩
theorem Off.ext {O:Nat} {a b c:World} (h:Off O a b) (hx:Ext b c) (hO:O <= b.heap.size):Off O a c :=
 ⟨h.1.trans (hx.mono hO),Nat.le_trans h.2.1 hx.size,fun k hk hne=>(Below.block hx k (Nat.lt_of_lt_of_le hk h.2.1)).trans (h.2.2 k hk hne)⟩
theorem Off.grown {O base n size:Nat} {e:TypeId} {v:Value} {xs:List Value} {a b c:World} (h:Off O a b) (hown:b.ownsRow base e size v n xs) (hb:a.heap.size <= base) (hO:O <= a.heap.size) (hg:b.grownBy c v.ownBlock):Off O a c:=by
 have hbel:Below O b c:=Below.grown (Below.refl _ _) hg (Nat.le_trans hO h.2.1) (fun k hk=>by have:=(hown.lt k hk).1; omega)
 have hbel2:Below a.heap.size b c:=Below.grown (Below.refl _ _) hg h.2.1 (fun k hk=>by have:=(hown.lt k hk).1; omega)
 exact ⟨h.1.trans hbel,Nat.le_trans h.2.1 hbel2.size,fun k hk hne=>(hbel2.block k hk).trans (h.2.2 k hk hne)⟩
theorem Off.set {O:Nat} {a b:World} (h:Off O a b) (k:Nat) (u:Value):Off O a (b.setCell ⟨O,k,none⟩ u) :=
 ⟨h.1.setCell (p:=⟨O,k,none⟩) (Nat.le_refl _) u,by simpa using h.2.1,fun j hj hne=>(Below.heap_setCell _ _ _ _ hne).trans (h.2.2 j hj hne)⟩
theorem Q2r.off {α:Type} {w w':World} {base O k:Nat} {e:TypeId} {enc:α -> List Value} {v:Value} {l:List α} (h:Q2r w base e k enc v l) (hO:O < base) (hx:Off O w w'):Q2r w' base e k enc v l:=by
 obtain ⟨h1,h2⟩:=h;refine ⟨h1,?_⟩
 rcases h2 with h2 | ⟨g,cap,cur,hv,hb,hg,r⟩
 . exact .inl h2
 . exact .inr ⟨g,cap,cur,hv,hb,by rw [hx.2.2 g (Array.getElem?_eq_some_iff.1 hg).1 (by omega)]; exact hg,r⟩
theorem Q2r.setCell {α:Type} {w:World} {base k:Nat} {e:TypeId} {enc:α -> List Value} {v:Value} {l:List α} (h:Q2r w base e k enc v l) {p:Addr} (hp:p.block < base) (u:Value):Q2r (w.setCell p u) base e k enc v l :=
 h.only hp (Q1x w p u)
theorem Q2u {w w':World} {cv:Value} {base n size g:Nat} {T e:TypeId} {cs:Array Value} {xs:List Value} (h:Blk w g T cs) (hown:w.ownsRow base e size cv n xs) (hb:g < base) (hg:w.grownBy w' cv.ownBlock):Blk w' g T cs:=by
 unfold Blk at *;rw [hg.block g (Array.getElem?_eq_some_iff.1 h).1 ?_]; exact h;intro e';have:=(hown.lt g e'.symm).1;omega
theorem Q9e {α:Type} {P:Program} {K:Value -> World -> Prop} {o:Oper} {a:Act} {w:World} (s x:Operand) (t:TypeId) (ho:o.op = .call { callee:=.builtin .append,args:=#[s,x],argTypes:=#[t,t] })
    (base:Nat) (e:TypeId) (i:TypeInfo) (z:Value) (k bytes:Nat) (ht:P.underlying t = some (.slice e)) (hi:P.info? e = some i) (hz:i.zero = some z) (hsize:i.size = k) (hby:i.bytes = bytes) (hzs:z.cells.size = k) (hk0:0 < k)
    (enc:α -> List Value) (hk:∀ x,(enc x).length = k) (v:Value) (xs:List α) (y:α) (hs:a.eval s = v) (hown:Q2r w base e k enc v xs) (ad:Addr) (c:Nat) (hx:a.eval x = .slice (some ad) 1 c)
    (hnews:∀ j u,(enc y)[j]? = some u -> w.cell? (ad.add j) = some u) (h1:∀ u ∈ enc y,u.oneCell' = true)
    (h63:xs.length + 1 <= 100000) (hb:bytes <= 1000) (hbase:base <= w.heap.size)
    (h:∀ v' w',Q2r w' base e k enc v' (xs ++ [y]) -> w.grownBy w' v.ownBlock -> K v' w'):gives P K ((execOp a.eval o).run P w):=by
 obtain ⟨v',w',hr,h2,h3,h4⟩:=run_append_own (P:=P) w base t o.type e i z k bytes ht hi hz hsize hby hzs hk0 v xs.length (xs.flatMap enc) hown ad 1 c (enc y) (by rw [hk]; omega) hnews h1 (by unfold maxLen; omega) (by
     have:(xs.length + 1) * bytes <= 100000 * 1000:=Nat.mul_le_mul h63 hb;omega) hbase
 unfold execOp;simp only [ho,resolve,invoke,builtin,Sem.run_bind,Sem.run_pure,Result.andThen_ok,List.map_toArray,List.map_cons,List.map_nil,hs,hx,hr];exact h v' w' (Q2r.snoc h2) h3
theorem X8x {w:World} {g:Nat} {T:TypeId} {xs:List Value} (h:Blk w g T xs.toArray):∀ j u,xs[j]? = some u -> w.cell? ((⟨g,0,none⟩:Addr).add j) = some u:=by
 intro j u hu;rw [addr_add,Nat.zero_add,h.cell]
 simpa using hu
def X5d (x:Basic):List Value:=[.string x.name,.int .i64 x.chance]
theorem X3t (x:Basic):(X5d x).length = 2:=rfl
end Go.Tw
namespace Go.Proofs
open Go.RowKit Go.Tw Go.Flow
theorem Tryd.X1s (w:World):(sizeOf 67).run Tryd.prog w = .ok 1 w:=by kernel_rfl
theorem Tryd.X5o (w:World):(sizeOf 69).run Tryd.prog w = .ok 1 w:=by kernel_rfl
theorem Q5r {K:Value -> World -> Prop} {o:Oper} {a:Act} {w:World} (T E:TypeId) (x:Operand) (ho:o.op = .buildSlice T 1 #[(0,x)]) {u:Value} (hx:a.eval x = u) (hr:(Instr.buildSlice T 1 #[(0,u)]).run Tryd.prog w = .ok (.slice (some ⟨w.heap.size,0,none⟩) 1 1) (w.alloc (.cells u.cells E)))
    (h:K (.slice (some ⟨w.heap.size,0,none⟩) 1 1) (w.alloc (.cells u.cells E))):gives Tryd.prog K ((execOp a.eval o).run Tryd.prog w):=by
 unfold execOp;simp only [ho,hx,List.map_toArray,List.map_cons,List.map_nil,Sem.run_bind,hr,Result.andThen_ok,Sem.run_pure];exact h
end Go.Proofs
namespace Go.Proofs
open Go.RowKit Go.Tw Go.Flow
attribute [local go_sem] Oper.semAt_some
theorem Q9o (w:World) (s:ByteArray) (c:Int):(Instr.build 134 #[(0,.string s),(1,.int .i64 c)]).run Tryd.prog w = .ok (.agg #[.string s,.int .i64 c]) w:=by kernel_rfl
theorem X5r (w:World) (s:ByteArray) (c:Int):(Instr.buildSlice 67 1 #[(0,.agg #[.string s,.int .i64 c])]).run Tryd.prog w = .ok (.slice (some ⟨w.heap.size,0,none⟩) 1 1) (w.alloc (.cells #[.string s,.int .i64 c] 134)):=by kernel_rfl
theorem X4q {w:World} {o:Oper} {a:Act} (T:TypeId) (x y:Operand) (hop:o.op = .build T #[(0,x),(1,y)]) {u1 u2 r:Value} (h1:a.eval x = u1) (h2:a.eval y = u2) (hr:∀ w,(Instr.build T #[(0,u1),(1,u2)]).run Tryd.prog w = .ok r w):(execOp a.eval o).run Tryd.prog w = .ok (.value r) w:=by
 unfold execOp;simp only [hop,List.map_toArray,List.map_cons,List.map_nil,h1,h2,Sem.run_bind,hr,Result.andThen_ok,Sem.run_pure]
theorem Tryd.X7g (w:World):(sizeOf 32).run Tryd.prog w = .ok 1 w:=by kernel_rfl
theorem X1y {w w':World} {v cv:Value} {l:List Int} {B base n size:Nat} {T e:TypeId} {xs:List Value} (h:Q0f w B T (Value.int .i64) v l) (hown:w.ownsRow base e size cv n xs) (he:e ≠ T) (hg:w.grownBy w' cv.ownBlock):Q0f w' B T (Value.int .i64) v l:=by
 obtain ⟨h1,h2⟩:=h;refine ⟨h1,?_⟩
 rcases h2 with h2 | ⟨g,cap,cur,hv,hb,hgl,r⟩
 . exact .inl h2
 . refine .inr ⟨g,cap,cur,hv,hb,?_,r⟩
   rw [hg.block g (Array.getElem?_eq_some_iff.1 hgl).1 ?_]; exact hgl;intro e'
   rcases hown.2 with ⟨rfl,_⟩ | ⟨g',_,cur',rfl,_,hg',_⟩
   . cases e'
   . have e2:g = g':=by simpa [Value.ownBlock] using e'
     rw [e2,hg'] at hgl;injection hgl with hgl;injection hgl with _ h3 _;exact he h3
theorem X3g {α:Type} {enc:α -> List Value} {w w':World} {v cv:Value} {l:List α} {B k base n size:Nat} {T e:TypeId} {xs:List Value} (h:Q2r w B T k enc v l) (hown:w.ownsRow base e size cv n xs) (he:e ≠ T) (hg:w.grownBy w' cv.ownBlock):Q2r w' B T k enc v l:=by
 obtain ⟨h1,h2⟩:=h;refine ⟨h1,?_⟩
 rcases h2 with h2 | ⟨g,cap,cur,hv,hb,hgl,r⟩
 . exact .inl h2
 . refine .inr ⟨g,cap,cur,hv,hb,?_,r⟩
   rw [hg.block g (Array.getElem?_eq_some_iff.1 hgl).1 ?_]; exact hgl;intro e'
   rcases hown.2 with ⟨rfl,_⟩ | ⟨g',_,cur',rfl,_,hg',_⟩
   . cases e'
   . have e2:g = g':=by simpa [Value.ownBlock] using e'
     rw [e2,hg'] at hgl;injection hgl with hgl;injection hgl with _ h3 _;exact he h3
theorem X5b {k:Nat} (h:k < 10):(⟨#[115]⟩:ByteArray) ++ Q3l k = X9w k:=by
 rw [Q2g h]
 apply ByteArray.ext
 rw [ByteArray.data_append];rfl
theorem X5h (n:Nat) (c:Int) {k:Nat} (hk:k < n):(Q0e n c).basics.take (k + 1) = (Q0e n c).basics.take k ++ [⟨X9w k,c⟩]:=by
 rw [List.take_succ_eq_append_getElem (by rw [Q2y]; exact hk)]
 congr 1
 simp [Q0e]
theorem X5j (n:Nat) {k:Nat} (hk:k < n):((List.range n).map Int.ofNat).take (k + 1) = ((List.range n).map Int.ofNat).take k ++ [(k:Int)]:=by
 rw [List.take_succ_eq_append_getElem (by simpa using hk)]
 congr 1
 simp
theorem X2o (k:Nat):Short (X9w k):=by show (2:Nat) <= _; omega
theorem Q1b (w:World) (n:Nat) (c:Int) (hn:n <= 9) :
    Calls Tryd.prog 19 #[.int .i64 n,.int .i64 c] w fun e w'=>∃ u,e = .returned u /\ IsTree w' u (Q0e n c) /\ Ext w w':=by
 obtain ⟨i0,hi,hz0,hz1,hz2⟩:=info_parts Tryd.info3;obtain ⟨j0,ji,jz0,jz1,jz2⟩:=info_parts Tryd.Y2h;have hn0:(0:Int) <= n:=by omega
 have htd:((n:Int) + 1).tdiv 2 = ((Q0m n:Nat):Int):=by
  unfold Q0m;rw [show (n:Int) + 1 = ((n + 1:Nat):Int) by omega]
  exact (Int.ofNat_tdiv (n + 1) 2).symm
 obtain ⟨nd,hnd⟩:∃ x,Q0m n = x:=⟨_,rfl⟩;rw [hnd] at htd;have hwq:wrap64 (nd:Int) = nd:=by
  have:nd <= 5:=by rw [<- hnd]; unfold Q0m; omega
  unfold wrap64;omega
 have HND:=Lib.hid hnd;clear hnd;go_enter Tryd.func19,Tryd.ntmps19;go_wp2_with fail;change Code.wp _ _ _ _ (((w.alloc (.cells #[.slice none 0 0,.slice none 0 0,.slice none 0 0] 71)).alloc (.cells #[.slice none 0 0,.slice none 0 0,.slice none 0 0] 71)).alloc (.cells #[.string ⟨#[118,111,116,101]⟩,.int .i64 nd,.slice none 0 0] 83));obtain ⟨W,hWW,k0,k1,k2,HXW,eW⟩:=Y0j w 71 #[.slice none 0 0,.slice none 0 0,.slice none 0 0] 71 #[.slice none 0 0,.slice none 0 0,.slice none 0 0] 83 #[.string ⟨#[118,111,116,101]⟩,.int .i64 nd,.slice none 0 0];rw [hWW];clear hWW;have R0:=Lib.hid k0;have O0:=Lib.hid k1;have G0:=Lib.hid k2;obtain ⟨O,hO⟩:∃ O,w.heap.size + 1 = O:=⟨_,rfl⟩;rw [hO] at O0 G0 eW ⊢;clear k0 k1 k2;rw [hwq];clear hwq htd
 go_loopw [13] (fun i wr=>∃ (k:Nat) (bv iv:Value),k <= n /\ i = .int .i64 k /\ Q2r wr (O + 2) 134 2 X5d bv ((Q0e n c).basics.take k) /\ Q0f wr (O + 2) 3 (.int .i64) iv (((List.range n).map Int.ofNat).take k) /\ Blk wr O 71 #[bv,.slice none 0 0,.slice none 0 0] /\ Blk wr (O + 1) 83 #[.string ⟨#[118,111,116,101]⟩,.int .i64 nd,iv] /\ Below O W wr) (fun i _=>n - (intOf i).toNat)
 case atStart=>exact ⟨0,_,_,Nat.zero_le _,rfl,Q2r.nil _ _ _ _ _,Q0f.nil _ _ _ _,O0.out,G0.out,Below.refl _ _⟩
 case round =>
  obtain ⟨k,bv,iv,hk,rfl,hown,hint,hblk,hgat,hbel⟩:=hrel;have hwrs:O + 1 < wr.heap.size:=hgat.lt;have HBEL:=Lib.hid hbel;have HOW:=Lib.hid hown;have HIN:=Lib.hid hint;have HBK:=Lib.hid hblk;have HGT:=Lib.hid hgat;clear hown hint hblk hgat hbel
  by_cases hlt:k < n
  . have hkI:(k:Int) < n:=by omega
    have hk0:(0:Int) <= (k:Int):=by omega
    have hkS:(k:Int) < 100:=by omega
    have HNM:=Lib.hid (X5b (k:=k) (by omega))
    have hs:¬ 9223372036854775807 < (⟨#[115]⟩:ByteArray).size + (Q3l k).size:=by
     have:=Q4b (n:=k) (by omega)
     have e:(⟨#[115]⟩:ByteArray).size = 1:=rfl;omega
    have hs1:1 + (Q3l k).size <= 9223372036854775807:=by
     have:=Q4b (n:=k) (by omega)
     omega
    have HTX:Hid (∀ w',Calls Tryd.prog 8 #[.int .i64 (k:Int)] w' fun e w''=>e = .returned (.string (Q3l k)) /\ Ext w' w''):=by
     exact (by intro w'; exact Y0e w' _ hk0 hkS:∀ w',Calls Tryd.prog 8 #[.int .i64 (k:Int)] w' fun e w''=>e = .returned (.string (Q3l k)) /\ Ext w' w'')
    obtain ⟨tx,htx⟩:∃ x,Q3l (k:Int) = x:=⟨_,rfl⟩;rw [htx] at HNM hs hs1 HTX;clear htx;have hdr:=(Ext.refl wr).drew
    go_light
    go_wp2;refine Flow.Q6x [.p,.w,.p,.w,.p,.p,.p,.w,.last,.last,.last] [0,1,2,3,4,5,6,7,8,9,10] [[],[0],[],[2],[2,3],[],[2,3,4,5],[2,3,4,5,6],[0,1,2,3,4,5,6,7],[0,1,2,3,4,5,6,7,8],[0,1,2,3,4,5,6,7,8,9]] [8,9,10]
     [.c 0 (.pointer (some ⟨O,0,none⟩)),.c 1 (bv),.c 2 (.int .i64 (k:Int)),.c 3 (.string tx),.c 4 (.string (⟨#[115]⟩ ++ tx)),.c 5 (.int .i64 c),.c 6 (.agg #[.string (⟨#[115]⟩ ++ tx),.int .i64 c]),⟨fun v wz=>(fun v w'=>∃ g,v 7 = .slice (some ⟨g,0,none⟩) 1 1 /\ Blk w' g 134 (X5d ⟨⟨#[115]⟩ ++ tx,c⟩).toArray) v wz,by rintro v a b hx ⟨g,h1,h2⟩; exact ⟨g,h1,h2.ext hx⟩⟩,.none,.none,.none]
     [fun v w1 w'=>Q2r w' (O + 2) 134 2 X5d (v 8) ((Q0e n c).basics.take k ++ [⟨(⟨#[115]⟩:ByteArray) ++ tx,c⟩]) /\ w1.grownBy w' bv.ownBlock,fun v w1 w'=>v 9 = .pointer (some ⟨O,0,none⟩) /\ Q2r w' (O + 2) 134 2 X5d (v 8) ((Q0e n c).basics.take k ++ [⟨(⟨#[115]⟩:ByteArray) ++ tx,c⟩]) /\ w1.grownBy w' bv.ownBlock,fun v w1 w'=>∃ x wm,Q2r wm (O + 2) 134 2 X5d x ((Q0e n c).basics.take k ++ [⟨(⟨#[115]⟩:ByteArray) ++ tx,c⟩]) /\ w1.grownBy wm bv.ownBlock /\ w' = wm.setCell ⟨O,0,none⟩ x] (by kernel_rfl) rfl (by kernel_rfl) ⟨?g0,?g1,?g2,?g3,?g4,?g5,?g6,?g7,?g8,?g9,?g10,trivial⟩ ?post
    case g0 | g2 | g5=>
     intro v w1 hx;intro bb hbb;subst hbb;refine ⟨_,fun w=>?_,rfl⟩;go_simp
    case g1=>
     intro v w1 hx;(repeat intro (zq:v _ = _));intro bb hbb;subst hbb;have n0:w1.cell? ⟨O,0,none⟩ = some bv:=(HBK.out.ext (hdr.trans hx)).cell 0;intro K hK;go_simp;exact hK _ _ (Ext.refl _) rfl
    case g3=>
     intro v w1 hx;(repeat intro (zq:v _ = _));intro bb hbb;subst hbb;intro K hK;go_simp;refine Q0b (HTX.out w1) ?_;rintro e w2 ⟨rfl,hx2⟩;exact ⟨_,rfl,hK _ _ hx2 rfl⟩
    case g4=>
     intro v w1 hx;(repeat intro (zq:v _ = _));intro bb hbb;subst hbb;refine ⟨_,fun w=>?_,rfl⟩;go_simp
    case g6=>
     intro v w1 hx;(repeat intro (zq:v _ = _));intro bb hbb;have o1:bb.eval (.tmp 20) = .string (⟨#[115]⟩ ++ tx):=by rw [hbb]; dsimp only; (try simp (discharger:=decide) only [eval_put_ne]); rw [Q0a (by simp only [size_put]; exact (by decide:20 < 37))]; assumption
     have o2:bb.eval (.tmp 21) = .int .i64 c:=by rw [hbb]; dsimp only; (try simp (discharger:=decide) only [eval_put_ne]); rw [Q0a (by simp only [size_put]; exact (by decide:21 < 37))]; assumption
     exact ⟨_,fun w=>X4q _ (.tmp 20) (.tmp 21) rfl o1 o2 (fun w=>Q9o w _ _),rfl⟩
    case g7=>
     intro v w1 hx;(repeat intro (zq:v _ = _));intro bb hbb;intro K hK;have o1:bb.eval (.tmp 22) = .agg #[.string (⟨#[115]⟩ ++ tx),.int .i64 c]:=by rw [hbb]; dsimp only; (try simp (discharger:=decide) only [eval_put_ne]); rw [Q0a (by simp only [size_put]; exact (by decide:22 < 37))]; assumption
     exact Q5r 67 134 (.tmp 22) rfl o1 (X5r w1 _ _) (hK _ _ (Ext.box _ _) ⟨_,rfl,Blk.made _ _ _⟩)
    case g8=>
     intro v w1 hx (q0:v 0 = _) (q1:v 1 = _) (q2:v 2 = _) (q3:v 3 = _) (q4:v 4 = _) (q5:v 5 = _) (q6:v 6 = _) (q7:(fun v w'=>∃ g,v 7 = .slice (some ⟨g,0,none⟩) 1 1 /\ Blk w' g 134 (X5d ⟨⟨#[115]⟩ ++ tx,c⟩).toArray) v w1);intro wl hT;obtain rfl:wl = w1:=hT;intro bb hbb;intro K hK;obtain ⟨g,hg7,hb7⟩:=q7;have o1:bb.eval (.tmp 17) = bv:=by rw [hbb]; dsimp only; (try simp (discharger:=decide) only [eval_put_ne]); rw [Q0a (by simp only [size_put]; exact (by decide:17 < 37))]; exact q1
     have o2:bb.eval (.tmp 23) = .slice (some ⟨g,0,none⟩) 1 1:=by rw [hbb]; dsimp only; (try simp (discharger:=decide) only [eval_put_ne]); rw [Q0a (by simp only [size_put]; exact (by decide:23 < 37))]; exact hg7
     have hxx:=hdr.trans hx;exact Q9e _ _ 67 rfl (O + 2) 134 j0 (.agg #[.string emp,.int .i64 0]) 2 24 Tryd.underlying67 ji jz0 jz1 jz2 rfl (by decide) X5d X3t bv _ ⟨(⟨#[115]⟩:ByteArray) ++ tx,c⟩ o1 (HOW.out.below hxx) ⟨g,0,none⟩ 1 o2 (X8x hb7) (by intro u hu; simp only [X5d,List.mem_cons,List.not_mem_nil,or_false] at hu; rcases hu with rfl | rfl <;> rfl) (by simp; omega) (by decide) (by have:=hxx.size; omega) (fun v' w' h1 h2=>hK _ _ ⟨h1,h2⟩)
    case g9=>
     intro v w1 hx (q0:v 0 = _) (q1:v 1 = _) (q2:v 2 = _) (q3:v 3 = _) (q4:v 4 = _) (q5:v 5 = _) (q6:v 6 = _) _;intro wl hT;replace hT:(fun v w1 w'=>Q2r w' (O + 2) 134 2 X5d (v 8) ((Q0e n c).basics.take k ++ [⟨(⟨#[115]⟩:ByteArray) ++ tx,c⟩]) /\ w1.grownBy w' bv.ownBlock) v w1 wl:=hT;intro bb hbb;subst hbb;intro K hK;go_simp;exact hK _ _ ⟨rfl,hT⟩
    case g10=>
     intro v w1 hx (q0:v 0 = _) (q1:v 1 = _) (q2:v 2 = _) (q3:v 3 = _) (q4:v 4 = _) (q5:v 5 = _) (q6:v 6 = _) _;intro wl hT;replace hT:(fun v w1 w'=>v 9 = .pointer (some ⟨O,0,none⟩) /\ Q2r w' (O + 2) 134 2 X5d (v 8) ((Q0e n c).basics.take k ++ [⟨(⟨#[115]⟩:ByteArray) ++ tx,c⟩]) /\ w1.grownBy w' bv.ownBlock) v w1 wl:=hT;intro bb hbb;intro K hK;obtain ⟨hT0,hT1,hT2⟩:=hT;have hxx:=hdr.trans hx;obtain ⟨bp,cp,hsh,_⟩:=hT1.shape;have o1:bb.eval (.tmp 25) = .pointer (some ⟨O,0,none⟩):=by rw [hbb]; dsimp only; (try simp (discharger:=decide) only [eval_put_ne]); rw [Q0a (by simp only [size_put]; exact (by decide:25 < 37))]; exact hT0
     have o2:bb.eval (.tmp 24) = v 8:=by rw [hbb]; dsimp only; (try simp (discharger:=decide) only [eval_put_ne]); rw [Q0a (by simp only [size_put]; exact (by decide:24 < 37))]
     have hbl:=Q2u (HBK.out.ext hxx) (HOW.out.below hxx) (by omega) hT2
     exact Q2a _ _ rfl Tryd.X1s (g:=O) (k:=0) o1 o2 (by rw [hsh]; rfl) (by rw [hsh]; rfl) hbl (by show 0 < 3; omega) (fun v'=>hK _ _ ⟨v 8,wl,hT1,hT2,rfl⟩)
    case post =>
     intro v w1 hx;(iterate 7 intro (zq:v _ = _));intro (q7:(fun v w'=>∃ g,v 7 = .slice (some ⟨g,0,none⟩) 1 1 /\ Blk w' g 134 (X5d ⟨⟨#[115]⟩ ++ tx,c⟩).toArray) v w1);intro w2 hE;replace hE:(fun v w1 w'=>∃ x wm,Q2r wm (O + 2) 134 2 X5d x ((Q0e n c).basics.take k ++ [⟨(⟨#[115]⟩:ByteArray) ++ tx,c⟩]) /\ w1.grownBy wm bv.ownBlock /\ w' = wm.setCell ⟨O,0,none⟩ x) v w1 w2:=hE;simp only [Flow.acts,Act.put];go_simp;obtain ⟨x,wm,hom,hgm,rfl⟩:=hE;have hxx:=hdr.trans hx;have hbm:=Q2u (HBK.out.ext hxx) (HOW.out.below hxx) (by omega) hgm
     have hgt:=Q2u (HGT.out.ext hxx) (HOW.out.below hxx) (by omega) hgm
     have hin:=X1y (HIN.out.below hxx) (HOW.out.below hxx) (by decide) hgm
     have hbe:Below O wr wm:=(hxx.mono (by omega)).trans (Below.grown (Below.refl _ _) hgm (by have:=hxx.size; omega) (fun j hj=>by have:=((HOW.out.below hxx).lt j hj).1; omega))
     have hon:=hom.setCell (p:=⟨O,0,none⟩) (by show O < O + 2; omega) x
     have hbn:=hbm.set 0 x;have hgn:=hgt.only (show O + 1 ≠ O by omega) (Q1x wm ⟨O,0,none⟩ x)
     have hinn:=hin.only (show O < O + 2 by omega) (Q1x wm ⟨O,0,none⟩ x)
     have hben:=(HBEL.out.trans hbe).setCell (p:=⟨O,0,none⟩) (Nat.le_refl _) x;rw [HNM.out,<- X5h n c hlt] at hon;obtain ⟨w6,hw6⟩:∃ y,wm.setCell ⟨O,0,none⟩ x = y:=⟨_,rfl⟩;rw [hw6] at hon hbn hgn hinn hben ⊢;have hs6:O + 2 <= w6.heap.size:=hgn.lt;have hlen:(((List.range n).map Int.ofNat).take k).length = k:=by simp; omega
     have hll:(((List.range n).map Int.ofNat).take k).length <= 4096:=by omega
     obtain ⟨Ai,ci,hiv,_⟩:=hinn.shape;have HON:=Lib.hid hon;have HBN:=Lib.hid hbn;have HGN:=Lib.hid hgn;have HBEN:=Lib.hid hben;clear hw6 hom hgm hxx hx hbm hgt hin hbe hon hbn hben hdr q7 hs hs1 HTX HOW HIN HBK HGT HBEL;(repeat clear zq);rw [hlen] at hiv;subst hiv;unfold Q0f at hinn;rw [hlen] at hinn;have c2:=hgn.cell 2;simp only [Go.Tw.gA,Go.Tw.gB,Go.Tw.gC] at c2;have hxe:=Ext.refl w6;clear hgn;go_wp2_with (first | ((at_builtin; refine wpList_append_own _ rfl _ _ 32 rfl (O + 2) 3 i0 (.int .i64 0) 1 8 Tryd.underlying32 hi hz0 hz1 hz2 rfl (by decide) _ _ _ rfl (World.ownsRow.alloc hinn _) ⟨w6.heap.size,0,none⟩ 1 1 [.int .i64 (k:Int)] rfl rfl ?_ ?_ ?_ ?_ ?_ ?_; exact Q3p _ _ _; (focus (simp [Value.oneCell'])); (focus (unfold maxLen; omega)); (focus omega); (focus (have:=hxe.size; simp at this ⊢; omega)); intro v' w1 hown' hgrow _); refine halted ?_))
     have hia:Q0f w1 (O + 2) 3 (.int .i64) v' (((List.range n).map Int.ofNat).take (k + 1)):=by
      rw [X5j n hlt];exact Q0f.snoc (by rw [hlen]; exact hown')
     have hl8:(((List.range n).map Int.ofNat).take (k + 1)).length = k + 1:=by simp; omega
     obtain ⟨A8,c8,hsh,_⟩:=hia.shape;rw [hl8] at hsh;have hxb:=Ext.box w6 (.cells #[.int .i64 (k:Int)] 3);have hoo:=World.ownsRow.alloc hinn (.cells #[.int .i64 (k:Int)] 3);have HG1:=Lib.hid (Q2u (HGN.out.ext hxb) hoo (by omega) hgrow)
     have HB1:=Lib.hid (Q2u (HBN.out.ext hxb) hoo (by omega) hgrow)
     have HO1:=Lib.hid (X3g (HON.out.below hxb) hoo (by decide) hgrow)
     have HE1:=Lib.hid (HBEN.out.trans ((hxb.mono (by omega)).trans (Below.grown (Below.refl _ _) hgrow (by have:=hxb.size; omega) (fun j hj=>by have:=(hoo.lt j hj).1; omega))))
     rw [hsh] at hia ⊢;have HIA:=Lib.hid hia;clear hown' hgrow hia hoo hxb hinn c2 hsh HON HBN HGN HBEN;unfold Q2v;go_wp2_with (refine Q0y rfl _ _ 32 rfl Tryd.X7g (g:=O + 1) (k:=2) (u:=.slice A8 (k + 1) c8) rfl rfl rfl rfl HG1.out (by show 2 < 3; omega) ?_; intro w5 hb5 hl5 ho5; refine halted ?_)
     have HG5:=Lib.hid hb5;have HB5:=Lib.hid (HB1.out.only (show O ≠ O + 1 by omega) ho5)
     have HO5:=Lib.hid (HO1.out.only (show O + 1 < O + 2 by omega) ho5)
     have HI5:=Lib.hid (HIA.out.only (show O + 1 < O + 2 by omega) ho5)
     have HE5:=Lib.hid (HE1.out.trans (hl5 O (by omega)))
     clear hb5 hl5 ho5;unfold Q2v;go_wp2;go_roundw
     case rel=>exact ⟨k + 1,_,_,by omega,by go_num,HO5.out,HI5.out,HB5.out,HG5.out,HE5.out⟩
     case measure=>simp [intOf]; omega
  . have hkn:k = n:=by omega
    subst hkn;have hob:=HOW.out;rw [List.take_of_length_le (by rw [Q2y]; exact Nat.le_refl _)] at hob
    have hoi:=HIN.out;rw [List.take_of_length_le (by simp)] at hoi
    have HOB:=Lib.hid hob;have HOI:=Lib.hid hoi;clear hob hoi HOW HIN;obtain ⟨A1,c1,hb1,_⟩:=HOB.out.shape;obtain ⟨A2,c2,hi1,_⟩:=HOI.out.shape;rw [Q2y] at hb1;rw [show ((List.range k).map Int.ofNat).length = k by simp] at hi1
    subst hb1;subst hi1;have R1:=Lib.hid (R0.out.below HBEL.out (by omega))
    have g0:=HGT.out.cell 0;have g1:=HGT.out.cell 1;have g2:=HGT.out.cell 2;simp only [Go.Tw.gA,Go.Tw.gB,Go.Tw.gC] at g0 g1 g2;have hxg:=Ext.box wr (.cells #[.string ⟨#[118,111,116,101]⟩,.int .i64 nd,.slice A2 k c2] 83);have kg:=Blk.made wr 83 #[.string ⟨#[118,111,116,101]⟩,.int .i64 nd,.slice A2 k c2];have HB9:=Lib.hid (HBK.out.ext hxg);have hwrs2:wr.heap.size < (wr.alloc (.cells #[.string ⟨#[118,111,116,101]⟩,.int .i64 nd,.slice A2 k c2] 83)).heap.size:=by simp
    have HKG:=Lib.hid kg;have HXG:=Lib.hid hxg;clear kg hxg;go_wp2_with (refine Q0y rfl _ _ 69 rfl Tryd.X5o (g:=O) (k:=2) (u:=.slice (some ⟨wr.heap.size,0,none⟩) 1 1) rfl rfl rfl rfl HB9.out (by show 2 < 3; omega) ?_; intro w5 hb5 hl5 ho5; refine halted ?_)
    have HB5:=Lib.hid hb5;have HG5:=Lib.hid (HKG.out.only (show wr.heap.size ≠ O by omega) ho5)
    have HO5:=Lib.hid ((HOB.out.below HXG.out).only (show O < O + 2 by omega) ho5)
    have HI5:=Lib.hid ((HOI.out.below HXG.out).only (show O < O + 2 by omega) ho5)
    have hxe:Below O wr w5:=(HXG.out.mono (by omega)).trans (hl5 O (Nat.le_refl _))
    have HE5:=Lib.hid (HBEL.out.trans hxe);have HR5:=Lib.hid (R0.out.below HE5.out (by omega))
    clear hb5 hl5 ho5 hxe g0 g1 g2 hwrs2;unfold Q2v;go_wp2_with (first | (refine Q0q rfl _ _ rfl Tryd.Q3h Tryd.Q0z rfl HB5.out rfl ?_) | (refine Q0j rfl _ _ 71 rfl Tryd.Q0z rfl rfl HR5.out rfl rfl ?_ ?_; (focus (intro u hu; simp only [List.mem_cons,List.not_mem_nil,or_false,List.setIfInBounds_toArray,List.set_cons_succ,List.set_cons_zero] at hu; rcases hu with rfl | rfl | rfl <;> rfl)); intro w9 hb9 hl9 ho9))
    refine bodyPost_ret (Q3i Tryd.results19 rfl hb9 Tryd.Q3h Tryd.Q0z) rfl ?_;refine ⟨_,rfl,⟨_,_,_,rfl,⟨?_,?_,?_⟩⟩,Below.trans (Below.trans HXW.out (HE5.out.mono (B':=w.heap.size) (by omega))) (hl9 _ (Nat.le_refl _))⟩
    . have h:=(HO5.out.only (g:=w.heap.size) (by omega) ho9)
      refine Q2r.rows (R:=RBasic) h (by rw [Q2y]; omega) X3t (fun x hx=>?_) (fun c c' x hc h=>?_)
      . obtain ⟨j,hj,rfl⟩:=List.getElem_of_mem hx
        refine ⟨rfl,rfl,?_⟩;simp only [Q0e,List.getElem_map];exact X2o _
      . obtain ⟨h1,h2,h3⟩:=h
        exact ⟨by rw [<- hc 0 (by omega)]; exact h1,by rw [<- hc 1 (by omega)]; exact h2,h3⟩
    . exact Rows.nil _ _ _
    . have hb:Blk w9 wr.heap.size 83 (Q0h enc3 1 (gF (Q0e k c) fun _=>.slice A2 k c2)):=by
       have h:=HG5.out.only (show wr.heap.size ≠ w.heap.size by omega) ho9
       rw [<- HND.out] at h;exact h
      have hi:=((HI5.out.only (g:=w.heap.size) (by omega) ho9).ints (by simp; omega))
      exact Q8m (l:=(Q0e k c).gates) hb (by show 1 <= 1; omega) (by show 1 <= 1000; omega) fun i hi'=>by
       have:i = 0:=by simp [Q0e] at hi'; exact hi'
       subst this;refine ⟨_,rfl,?_,by show (4:Nat) <= _; omega⟩
       have e:((List.range k).map Int.ofNat).length = k:=by simp
       exact hi
end Go.Proofs
namespace Go.Proofs
open Go.RowKit Go.Tw Go.Flow
theorem X7k (w:World) (b:Bool) (x:Int) :
    Calls Tryd.prog 60 #[.bool b,.int .i64 x] w fun e w'=>e = .returned (.int .i64 (Q0c b x)) /\ w = w':=by
 cases b <;>
 . go_enter Tryd.func60,Tryd.ntmps60
   go_wp2;go_ret;exact ⟨rfl,rfl⟩
theorem Q8r (w:World) (v:Value) (l:List Int) (hv:IsInts w v l) :
    Calls Tryd.prog 44 #[v] w fun e w'=>e = .returned (.int .i64 (firstErr l)) /\ w = w':=by
 obtain ⟨A,cap,rfl,hl,hcap,hc⟩:=hv.opened;clear hv;go_enter Tryd.func44,Tryd.ntmps44;go_wp2
 go_loop [7] (fun i=>∃ k:Nat,k <= l.length /\ i = .int .i64 k /\ firstErr (l.drop k) = firstErr l) (fun i=>l.length - (intOf i).toNat)
 case atStart=>exact ⟨0,Nat.zero_le _,rfl,rfl⟩
 case round =>
  obtain ⟨k,hk,rfl,hr⟩:=hrel;have HR:=Lib.hid hr; clear hr
  by_cases hlt:k < l.length
  . obtain ⟨b,off,rfl,hcell⟩:=hc k hlt
    clear hc
    by_cases hx:ix l k = 0
    . have HX:=Lib.hid hx
      have hx1:(ix l k != 0) = false:=by simp [hx]
      clear hx;go_wp2;go_round
      case rel=>exact ⟨k + 1,by omega,by go_num,by rw [<- HR.out,Q1s hlt,firstErr,if_pos HX.out]⟩
      case measure=>simp [intOf]; omega
    . have hx1:(ix l k != 0) = true:=by simp [hx]
      have HX:=Lib.hid hx; clear hx;go_wp2;go_ret;exact ⟨ret_int (by rw [<- HR.out,Q1s hlt,firstErr,if_neg HX.out]),rfl⟩
  . clear hc
    go_wp2;go_ret;exact ⟨ret_int (by rw [<- HR.out,List.drop_eq_nil_of_le (by omega)]; rfl),rfl⟩
theorem X2k (w:World) (x a b:Int) :
    Calls Tryd.prog 59 #[.int .i64 x,.int .i64 a,.int .i64 b] w fun e w'=>e = .returned (.int .i64 (rangeErr x a b)) /\ w = w':=by
 unfold rangeErr
 by_cases h1:x < a
 . rw [if_pos (.inl h1)]
   go_enter Tryd.func59,Tryd.ntmps59;go_wp2;go_ret;exact ⟨rfl,rfl⟩
 . by_cases h2:b < x
   . rw [if_pos (.inr h2)]
     go_enter Tryd.func59,Tryd.ntmps59;go_wp2;go_ret;exact ⟨rfl,rfl⟩
   . rw [if_neg (by omega)]
     go_enter Tryd.func59,Tryd.ntmps59;go_wp2;go_ret;exact ⟨rfl,rfl⟩
end Go.Proofs
namespace Go.Proofs
open Go.RowKit Go.Tw Go.Flow
theorem X4r (f:Int -> Int) (l:List Int) {k:Nat} (hk:k < l.length):(l.map f).take k ++ [f (ix l k)] = (l.map f).take (k + 1):=by
 rw [List.take_succ_eq_append_getElem (by simpa using hk),ix_eq hk]
 simp
theorem X2t (w:World) (v:Value) (l:List Int) (g:Nat) (f:Int -> Int) (hv:IsInts w v l) (hle:l.length <= 4096) (eg:∀ args w,(callFunc g args).run Tryd.prog w = .ok (.enter g args) w)
    (hf:∀ W x,Ext w W -> x ∈ l -> Calls Tryd.prog g #[.int .i64 x] W fun e W'=>e = .returned (.int .i64 (f x)) /\ Ext W W') :
    Calls Tryd.prog 61 #[v,.func (.func g) #[] #[]] w fun e w'=>∃ x,e = .returned x /\ Q0f w' w.heap.size 45 (.int .i64) x (l.map f) /\ Ext w w':=by
 obtain ⟨i0,hi,hz0,hz1,hz2⟩:=info_parts Tryd.X7j;obtain ⟨A,cap,rfl,hl,hcap,hc⟩:=hv.opened;have HC:=Lib.hid hc;have HF:=Lib.hid hf;clear hv hc hf;go_enter Tryd.func61,Tryd.ntmps61;go_wp2
 go_loopw [5,10] (fun o i wr=>∃ (k:Nat),k <= l.length /\ i = .int .i64 k /\ Q0f wr w.heap.size 45 (.int .i64) o ((l.map f).take k) /\ Ext w wr) (fun _ i _=>l.length - (intOf i).toNat)
 case atStart=>exact ⟨0,Nat.zero_le _,rfl,Q0f.nil _ _ _ _,Ext.refl _⟩
 case round =>
  obtain ⟨k,hk,rfl,hown,hx⟩:=hrel;have hlen:((l.map f).take k).length = k:=by rw [List.length_take,List.length_map]; omega
  by_cases hlt:k < l.length
  . obtain ⟨b,off,rfl,hcell⟩:=HC.out k hlt
    have HTK:=Lib.hid (X4r f l hlt);have HFS:=Lib.hid (HF.out wr (ix l k) hx (by rw [ix_eq hlt]; exact List.getElem_mem hlt))
    obtain ⟨s,hs⟩:∃ s,ix l k = s:=⟨_,rfl⟩;rw [hs] at hcell HTK HFS;obtain ⟨y,hy⟩:∃ y,f s = y:=⟨_,rfl⟩;rw [hy] at HFS HTK;replace hcell:=hx.cell hcell;have hll:((l.map f).take k).length <= 4096:=by omega
    have HOWN:=Lib.hid hown;clear hs hlen hy hown;go_wp2_with (first | (refine HFS.out.mono ?_; rintro e w9 ⟨rfl,hx9⟩; have hown9:=HOWN.out.below hx9; have hx99:=hx.trans hx9) | (at_builtin; refine wpList_append_own _ rfl _ _ 110 rfl (w.heap.size) 45 i0 (.int .i64 0) 1 8 Tryd.underlying110 hi hz0 hz1 hz2 rfl (by decide) _ _ _ rfl (World.ownsRow.alloc hown9 _) ⟨w9.heap.size,0,none⟩ 1 1 [.int .i64 y] rfl rfl ?_ ?_ ?_ ?_ ?_ ?_; exact Q3p _ _ _; (focus (simp [Value.oneCell'])); (focus (unfold maxLen; omega)); (focus omega); (focus (have:=hx99.size; simp at this ⊢; omega)); intro v' w1 hown' hgrow _))
    have hx':=Q1z hx99 hown9 (Nat.le_refl _) hgrow;go_wp2;go_roundw
    case rel=>exact ⟨k + 1,by omega,by go_num,by rw [<- HTK.out]; exact Q0f.snoc hown',hx'⟩
    case measure=>simp [intOf]; omega
  . have HE:Hid ((l.map f).take k = l.map f):=Lib.hid (by rw [List.take_of_length_le (by rw [List.length_map]; omega)])
    rw [HE.out] at hown;have HOWN:=Lib.hid hown;clear hown hlen;go_wp2;go_ret;exact ⟨_,rfl,HOWN.out,hx⟩
theorem X8m (f:Int -> Bool) (l:List Int) {k:Nat} (hk:k < l.length):(l.take (k + 1)).filter f = if f (ix l k) then (l.take k).filter f ++ [ix l k] else (l.take k).filter f:=by
 rw [List.take_succ_eq_append_getElem hk,List.filter_append,ix_eq hk]
 by_cases h:f l[k] = true
 . rw [if_pos h]; simp [h]
 . rw [if_neg h]; simp [h]
theorem X9d (f:Int -> Bool) (l:List Int) (k:Nat):((l.take k).filter f).length <= k :=
 Nat.le_trans (List.length_filter_le _ _) (by rw [List.length_take]; omega)
theorem X6n (w:World) (v:Value) (l:List Int) (g:Nat) (c:Value) (f:Int -> Bool) (hv:IsInts w v l) (hle:l.length <= 4096) (eg:∀ args w,(callFunc g args).run Tryd.prog w = .ok (.enter g args) w)
    (hf:∀ W x,Ext w W -> Calls Tryd.prog g #[.int .i64 x,c] W fun e W'=>e = .returned (.bool (f x)) /\ W = W') :
    Calls Tryd.prog 62 #[v,.func (.func g) #[] #[c]] w fun e w'=>∃ x,e = .returned x /\ Q0f w' w.heap.size 3 (.int .i64) x (l.filter f) /\ Ext w w':=by
 obtain ⟨i0,hi,hz0,hz1,hz2⟩:=info_parts Tryd.info3;obtain ⟨A,cap,rfl,hl,hcap,hc⟩:=hv.opened;have HC:=Lib.hid hc;have HF:=Lib.hid hf;clear hv hc hf;go_enter Tryd.func62,Tryd.ntmps62;go_wp2
 go_loopw [5,10] (fun o i wr=>∃ (k:Nat),k <= l.length /\ i = .int .i64 k /\ Q0f wr w.heap.size 3 (.int .i64) o ((l.take k).filter f) /\ Ext w wr) (fun _ i _=>l.length - (intOf i).toNat)
 case atStart=>exact ⟨0,Nat.zero_le _,rfl,Q0f.nil _ _ _ _,Ext.refl _⟩
 case round =>
  obtain ⟨k,hk,rfl,hown,hx⟩:=hrel;have hlen:=X9d f l k
  by_cases hlt:k < l.length
  . obtain ⟨b,off,rfl,hcell⟩:=HC.out k hlt
    have HTK:=Lib.hid (X8m f l hlt);have HFS:=Lib.hid (HF.out wr (ix l k) hx);obtain ⟨s,hs⟩:∃ s,ix l k = s:=⟨_,rfl⟩;rw [hs] at hcell HTK HFS;obtain ⟨y,hy⟩:∃ y,f s = y:=⟨_,rfl⟩;rw [hy] at HFS HTK;replace hcell:=hx.cell hcell;have hll:((l.take k).filter f).length <= 4096:=by omega
    have HOWN:=Lib.hid hown;clear hs hlen hy hown;cases y with
    | true =>
      go_wp2_with (first | (refine HFS.out.mono ?_; rintro e w9 ⟨rfl,rfl⟩; have hown9:=HOWN.out) | (at_builtin; refine wpList_append_own _ rfl _ _ 32 rfl (w.heap.size) 3 i0 (.int .i64 0) 1 8 Tryd.underlying32 hi hz0 hz1 hz2 rfl (by decide) _ _ _ rfl (World.ownsRow.alloc hown9 _) ⟨wr.heap.size,0,none⟩ 1 1 [.int .i64 s] rfl rfl ?_ ?_ ?_ ?_ ?_ ?_; exact Q3p _ _ _; (focus (simp [Value.oneCell'])); (focus (unfold maxLen; omega)); (focus omega); (focus (have:=hx.size; simp at this ⊢; omega)); intro v' w1 hown' hgrow _))
      have hx':=Q1z hx hown9 (Nat.le_refl _) hgrow;go_wp2;go_roundw
      case rel=>exact ⟨k + 1,by omega,by go_num,by rw [HTK.out]; exact Q0f.snoc hown',hx'⟩
      case measure=>simp [intOf]; omega
    | false =>
      go_wp2_with (refine HFS.out.mono ?_; rintro e w9 ⟨rfl,rfl⟩);go_roundw
      case rel=>exact ⟨k + 1,by omega,by go_num,by rw [HTK.out]; exact HOWN.out,hx⟩
      case measure=>simp [intOf]; omega
  . have HE:Hid ((l.take k).filter f = l.filter f):=Lib.hid (by rw [List.take_of_length_le (by omega)])
    rw [HE.out] at hown;have HOWN:=Lib.hid hown;clear hown hlen;go_wp2;go_ret;exact ⟨_,rfl,HOWN.out,hx⟩
theorem X6x (w:World) (x:Int) :
    Calls Tryd.prog 58 #[.int .i64 x] w fun e w'=>e = .returned (.int .i64 (rangeErr x 0 1000)) /\ Ext w w':=by
 go_enter Tryd.func58,Tryd.ntmps58;go_wp2_with (go_at_call 59; refine (X2k _ _ _ _).mono ?_; rintro e w' ⟨rfl,rfl⟩);go_ret;exact ⟨rfl,Ext.refl _⟩
theorem X6q (w:World) (x y:Int) (B:Nat) (h:w.cell? ⟨B,0,none⟩ = some (.int .i64 y)) :
    Calls Tryd.prog 63 #[.int .i64 x,.pointer (some ⟨B,0,none⟩)] w fun e w'=>e = .returned (.bool (x == y)) /\ w = w':=by
 go_enter Tryd.func63,Tryd.ntmps63;go_wp2;go_ret;exact ⟨rfl,rfl⟩
theorem X9a {l:List Int} (h:∀ x ∈ l,0 <= x /\ x <= 1000):firstErr (l.map fun x=>rangeErr x 0 1000) = 0:=by
 rw [Q0n];intro e he;obtain ⟨x,hx,rfl⟩:=List.mem_map.1 he;have:=h x hx;unfold rangeErr;rw [if_neg (by omega)]
def X2b (l:List Int):Int:=(Q7c l).getD 0
def X2r (l:List Int):Int:=if (Q7c l).isSome then 0 else 7
theorem Q4c {l:List Int} {s:Int} (h:Q7c l = some s):X2b l = s /\ X2r l = 0:=by unfold X2b X2r; rw [h]; exact ⟨rfl,rfl⟩
theorem Q5f {l:List Int} (h:Q7c l = none):X2b l = 0 /\ X2r l = 7:=by unfold X2b X2r; rw [h]; exact ⟨rfl,rfl⟩
theorem X7c (p:Int -> Bool) {l:List Int} {k:Nat} (hk:k < l.length):(l.drop k).find? p = if p (ix l k) then some (ix l k) else (l.drop (k + 1)).find? p:=by
 rw [List.drop_eq_getElem_cons hk,List.find?_cons,ix_eq hk];cases p l[k] <;> rfl
theorem X4d (w:World) (v:Value) (l:List Int) (hv:IsInts w v l) (hle:l.length <= 9) (hr:∀ x ∈ l,0 <= x /\ x <= 1000) :
    Calls Tryd.prog 17 #[v] w fun e w'=>e = .returned (.tuple #[.int .i64 (X2b l),.int .i64 (X2r l)]) /\ Ext w w':=by
 obtain ⟨A,cap,rfl,hl,hcap,hc⟩:=hv.opened;have h9:¬ (9:Int) < l.length:=by omega
 have HV:=Lib.hid hv;have HC:=Lib.hid hc;have HE1:Hid (∀ (w':World) (u:Value),IsInts w' u (l.map fun x=>rangeErr x 0 1000) -> Calls Tryd.prog 44 #[u] w' fun e w''=>e = .returned (.int .i64 0) /\ w' = w''):=by
  exact (by intro w' u h; have:=Q8r _ _ _ h; rw [X9a hr] at this; exact this:∀ (w':World) (u:Value),IsInts w' u (l.map fun x=>rangeErr x 0 1000) -> Calls Tryd.prog 44 #[u] w' fun e w''=>e = .returned (.int .i64 0) /\ w' = w'')
 have HE2:Hid (∀ w':World,Calls Tryd.prog 44 #[.slice (some ⟨w'.heap.size,0,none⟩) 2 2] (w'.alloc (.cells #[.int .i64 (Q0c false 5),.int .i64 0] 45)) fun e w''=>e = .returned (.int .i64 0) /\ (w'.alloc (.cells #[.int .i64 (Q0c false 5),.int .i64 0] 45)) = w''):=by
  exact (by intro w'; exact Q8r _ _ _ (Q2k (l:=[Q0c false 5,0]) (by simp)):∀ w':World,Calls Tryd.prog 44 #[.slice (some ⟨w'.heap.size,0,none⟩) 2 2] (w'.alloc (.cells #[.int .i64 (Q0c false 5),.int .i64 0] 45)) fun e w''=>e = .returned (.int .i64 0) /\ (w'.alloc (.cells #[.int .i64 (Q0c false 5),.int .i64 0] 45)) = w'')
 clear hv hc hr;go_enter Tryd.func17,Tryd.ntmps17;go_wp2_with (first | (go_at_call 60; refine (X7k _ _ _).mono ?_; rintro e w' ⟨rfl,rfl⟩) | (go_at_call 61; refine (X2t _ _ l 58 (fun x=>rangeErr x 0 1000) HV.out (by omega) (enters_of Tryd.func58 (by kernel_rfl) rfl) (fun W x _ _=>X6x W x)).mono ?_; rintro e w1 ⟨x,rfl,ho,hx1⟩; have hoi:=ho.ints (by rw [List.length_map]; omega); have HX1:=Lib.hid hx1; clear ho hx1) | (go_at_call 44; refine (HE1.out _ _ hoi).mono ?_; rintro e w' ⟨rfl,rfl⟩; clear hoi) | (go_at_call 44; refine (HE2.out _).mono ?_; rintro e w' ⟨rfl,rfl⟩))
 have hxw:=HX1.out.trans (Ext.box w1 (.cells #[.int .i64 (Q0c false 5),.int .i64 0] 45));obtain ⟨W,hW⟩:∃ X,w1.alloc (.cells #[.int .i64 (Q0c false 5),.int .i64 0] 45) = X:=⟨_,rfl⟩;rw [hW] at hxw ⊢;have HXW:=Lib.hid hxw;clear hW hxw HX1 HE1 HE2
 go_loopw [24] (fun i wr=>∃ (k:Nat),k <= l.length /\ i = .int .i64 k /\ (l.drop k).find? (X8n l) = Q7c l /\ Ext W wr) (fun i _=>l.length - (intOf i).toNat)
 case atStart=>exact ⟨0,Nat.zero_le _,rfl,rfl,Ext.refl _⟩
 case round =>
  obtain ⟨k,hk,rfl,hfd,hx⟩:=hrel;have HFD:=Lib.hid hfd;have HX:=Lib.hid hx;clear hfd
  by_cases hlt:k < l.length
  . obtain ⟨b,off,rfl,hcell⟩:=HC.out k hlt
    have hst:=X7c (X8n l) hlt;obtain ⟨s,hs⟩:∃ s,ix l k = s:=⟨_,rfl⟩;rw [hs] at hcell hst;have HST:=Lib.hid hst;replace hcell:=(HXW.out.trans hx).cell hcell;have hkI:(k:Int) < l.length:=by omega
    have hxb:=Ext.box wr (.cells #[.int .i64 s] 3);have hb:=Blk.made wr 3 #[.int .i64 s];have HB:=Lib.hid hb;have HXB:=Lib.hid hxb;clear hs hst hx hb hxb
    go_light
    go_wp2_with fail;refine (X6n _ _ l 63 _ (fun x=>x == s) (HV.out.ext ((HXW.out.trans HX.out).trans HXB.out)) (by omega) (enters_of Tryd.func63 (by kernel_rfl) rfl) (fun W x hxx=>X6q W x s _ ((HB.out.ext hxx).cell 0))).mono ?_
    rintro e w2 ⟨x,rfl,ho,hx2⟩;obtain ⟨A2,c2,rfl,_⟩:=ho.shape;have c0:=(HB.out.ext hx2).cell 0;simp only [Go.Tw.gA,Go.Tw.gB] at c0;have hcp:(l.filter (fun x=>x == s)).length = l.countP (fun x=>x == s):=(List.countP_eq_length_filter ..).symm;have hle9:l.countP (fun x=>x == s) <= l.length:=List.countP_le_length;have hmj:X8n l s = decide (l.length < 2 * l.countP (fun x=>x == s)):=rfl;rw [hcp];obtain ⟨m,hm⟩:∃ m,l.countP (fun x=>x == s) = m:=⟨_,rfl⟩
    rw [hm] at hle9 hmj ⊢;have hw2:IntKind.i64.wrap (2 * (m:Int)) = 2 * (m:Int):=Q2x _ (by omega) (by omega)
    have HMJ:=Lib.hid hmj;have HX2:=Lib.hid (((HXW.out.trans HX.out).trans HXB.out).trans hx2);have HX3:=Lib.hid ((HX.out.trans HXB.out).trans hx2);clear hm hmj ho hx2 hcp
    by_cases hgt:(l.length:Int) < 2 * (m:Int)
    . have HR:Hid (Q7c l = some s):=Lib.hid (by rw [<- HFD.out,HST.out,HMJ.out,decide_eq_true (by omega),if_pos rfl])
      go_wp2;go_ret2;exact ⟨by rw [(Q4c HR.out).1,(Q4c HR.out).2]; rfl,HX2.out⟩
    . have HR:Hid ((l.drop (k + 1)).find? (X8n l) = Q7c l):=Lib.hid (by rw [<- HFD.out,HST.out,HMJ.out,decide_eq_false (by omega),if_neg (by simp)])
      go_wp2;go_roundw
      case rel=>exact ⟨k + 1,by omega,by go_num,HR.out,HX3.out⟩
      case measure=>simp [intOf]; omega
  . have HR:Hid (Q7c l = none):=Lib.hid (by rw [<- HFD.out,List.drop_eq_nil_of_le (by omega)]; rfl)
    go_wp2;go_ret2;exact ⟨by rw [(Q5f HR.out).1,(Q5f HR.out).2]; rfl,HXW.out.trans HX.out⟩
end Go.Proofs
namespace Go.Proofs
open Go.Tw
theorem X0v (n:Nat):(List.finRange n).map (fun x=>x.1) = List.range n:=by
 apply List.ext_getElem
 . simp
 . intro i h1 h2
   simp
theorem X4h {N:Nat} (t:Tree) (c:List Int) (wi:Nat):∀ l:List (Fin N),sumW t c wi l = ((l.map (fun x=>x.1)).map (Q9d t c wi)).sum
 | []=>rfl
 | x :: l=>by rw [sumW,X4h t c wi l]; simp
theorem Q6b (t:Tree) (c:List Int):∀ n,t.weightTo c n = ((List.range n).map fun s=>if t.fails (evN s) then partOf c s else 0).sum
 | 0=>rfl
 | n + 1=>by rw [Tree.weightTo,Q6b t c n,List.range_succ,List.map_append,List.sum_append]; simp
theorem X3e (t:Tree) (c:List Int) (wi:Nat):Q2j t c wi = ((List.range (2 ^ t.size)).map (Q9d t c wi)).sum:=by
 unfold Q2j;rw [X4h,X0v]
theorem X1a (t:Tree) (c:List Int):Q2j t c 0 = t.weight c:=by
 rw [X3e];unfold Tree.weight;rw [Q6b]
 congr 1
 apply List.map_congr_left
 intro s _;unfold Q9d;simp
end Go.Proofs
namespace Go.Proofs
open Go.RowKit Go.Tw Go.Flow
theorem X8j:∀ {l:List Int},l.Pairwise (· < ·) -> ascB l = true
 | [],_=>rfl
 | [_],_=>rfl
 | x :: y :: l,h=>by
   rw [ascB,decide_eq_true ((List.pairwise_cons.1 h).1 y (List.mem_cons_self ..)),Bool.true_and];exact X8j (List.pairwise_cons.1 h).2
theorem Q8i (s:Nat):(bitsOf s).Pairwise (· < ·):=by
 unfold bitsOf;rw [List.pairwise_map];exact (List.pairwise_lt_range.filter _).imp fun h=>Int.ofNat_lt.2 h
theorem X0u {n s:Nat} (h:s < 2 ^ n):setErr (bitsOf s) n = 0:=by
 unfold setErr;rw [X8j (Q8i s),if_pos rfl,if_neg];unfold outB;rw [Bool.not_eq_true,List.any_eq_false];intro x hx;have:=Q6t h hx;simp only [decide_eq_true_eq];omega
theorem Y1q (w:World) (u v:Value) (n c s:Nat) (h1:1 <= n) (hn:n <= 9) (hc:c <= 16) (hs:s < 2 ^ n) (hu:IsTree w u (Q0e n c)) (hv:IsInts w v (bitsOf s)) :
    Calls Tryd.prog 18 #[u,v] w fun e w'=>e = .returned (.tuple #[.bool (decide (Q0m n <= Q2l n s)),.int .i64 0]) /\ Ext w w':=by
 have he:=Q6s h1 hn hc;have hz:Q0l (Q0e n c) (bitsOf s) = 0:=by
  unfold Q0l;rw [if_pos he,Q2s];exact X0u hs
 have hf:Q4j (Q0e n c) (bitsOf s) = decide (Q0m n <= Q2l n s):=by
  unfold Q4j;rw [if_pos hz,Q5q,X0y (Q5k s) fun x hx=>Q6t hs hx,Q4f (by omega) hs]
 have h:=X5e w u v _ _ hu hv;rw [hz,hf] at h;exact h
theorem X6y (w:World) (u:Value) (n c:Nat) (h1:1 <= n) (hn:n <= 9) (hc:c <= 16) (hu:IsTree w u (Q0e n c)) :
    Calls Tryd.prog 20 #[u] w fun e w'=>e = .returned (.tuple #[.agg #[.int .i64 (lowest (sumTo n c (n + 1):Nat) (Q4h 16 n:Nat)).num,.int .i64 (lowest (sumTo n c (n + 1):Nat) (Q4h 16 n:Nat)).den],.int .i64 0]) /\ Ext w w':=by
 have he:=Q6s h1 hn hc;have h:=X3f w u _ hu;have e:Q4s (Q0e n c) = lowest (sumTo n c (n + 1):Nat) (Q4h 16 n:Nat):=by
  unfold Q4s;rw [if_pos he,X1a,Y2d h1 hn hc,Q2s]
 rw [e,he] at h;exact h
theorem Y2v (w:World) (u:Value) (n c:Nat) (h1:1 <= n) (hn:n <= 9) (hc:c <= 16) (hu:IsTree w u (Q0e n c)) (hT:Tab w) :
    Calls Tryd.prog 21 #[u] w fun e w'=>∃ x,e = .returned (.tuple #[x,.int .i64 0]) /\ IsIntss w' x ((Q0e n c).sets false) /\ Ext w w':=by
 have he:=Q6s h1 hn hc;have h:=X7w w u _ hu hT;have e:X2h (Q0e n c) false = (Q0e n c).sets false:=by unfold X2h; rw [if_pos he]
 rw [e,he] at h;exact h
def okD:Bool:=(List.range 9).all fun n=>decide ((Q4m ⟨sVote,Q0m (n + 1),(List.range (n + 1)).map Int.ofNat⟩).need = ((n + 1 + 1 - Q0m (n + 1):Nat):Int))
theorem Y1m:okD = true:=by decide +kernel
theorem Y2l (w:World) (u:Value) (n c:Nat) (h1:1 <= n) (hn:n <= 9) (hc:c <= 16) (hu:IsTree w u (Q0e n c)) :
    Calls Tryd.prog 22 #[u] w fun e w'=>∃ x,e = .returned (.tuple #[x,.int .i64 0]) /\ (∃ a b B off cap,x = .agg #[a,b,.slice (some ⟨B,off,none⟩) 1 cap] /\ (∃ k m j,a = .slice k m j) /\ (∃ k m j,b = .slice k m j) /\ w'.cell? ⟨B,off + 1,none⟩ = some (.int .i64 ((n + 1 - Q0m n:Nat):Int))) /\ Ext w w':=by
 have he:=Q6s h1 hn hc;have h0:Q4q (Q0e n c) = 0:=by unfold Q4q; rw [he]; rfl
 have h2:X3k (Q0e n c) = ⟨(Q0e n c).basics.map X3d,(Q0e n c).causes,(Q0e n c).gates.map Q4m⟩:=by unfold X3k; rw [if_pos h0]
 refine (X7u w u _ hu).mono ?_;rintro e w' ⟨x,rfl,ht,hx⟩;rw [h2] at ht;obtain ⟨a,b,g,rfl,h3⟩:=ht;obtain ⟨k1,c1,rfl,_,_,_⟩:=h3.basics.opened;obtain ⟨k2,c2,rfl,_,_,_⟩:=h3.causes.opened;obtain ⟨k3,c3,rfl,_,_,hc3⟩:=h3.gates.opened;obtain ⟨B,off,m,rfl,_,_,hneed,_⟩:=hc3 0 (by show 0 < 1; omega)
 rw [h0];refine ⟨_,rfl,⟨_,_,B,off,c3,rfl,⟨_,_,_,rfl⟩,⟨_,_,_,rfl⟩,?_⟩,hx⟩;rw [Nat.zero_mul,Nat.add_zero] at hneed;rw [hneed];have h:=List.all_eq_true.1 Y1m (n - 1) (List.mem_range.2 (by omega))
 rw [show n - 1 + 1 = n by omega] at h
 have h:=of_decide_eq_true h;show some (Value.int .i64 (Q4m ⟨sVote,Q0m n,(List.range n).map Int.ofNat⟩).need) = _;rw [h]
end Go.Proofs
