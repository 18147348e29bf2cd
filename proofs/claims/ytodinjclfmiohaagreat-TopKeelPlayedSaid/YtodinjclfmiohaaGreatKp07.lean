/- Contract: together. Contract: the function that decide lays over the plans. Contracts: mapped over runners, moved. Plain law: how many plans there are (two for each history at most), and how great their numbers are. Contract: mapped over histories to rules, by the function that Best lays over them. Contract: Best. Contracts: the function that Always lays over the histories, mapped, Always. Contract: Play. Contracts of closings and Play, with the closings as a list in blocks of their own. Rules as the cells of a slice, to be copied. Contracts: slices.Clone of a list; owned: a policy of the call's own. Contract: Certify. Ranges over functions inside a loop: the marks that they leave among the deferred calls; a loop whose invariant names them and counts up in a slot. Contract: groups (of the program): the groups of a valid season and the sum of their weights. Contract: Regret (of the program). Contract of the reference: Alone. Contracts: Weight of the program; what is needed of it. What the law PolicyPlays needs: the answers of Flip and Play case by case; lists that outlast a store. Contract: groups (of the program): the groups of a valid season and the sum of their weights. Contracts of the reference: Coded, Always. Contracts of the reference: Few, Most. Most and Best of the program at a season that is refused; small facts for the law PolicySearches. What the law PolicyBest asks, as plain facts. What the law PolicyCertifies asks, as plain facts; small lists in memory. The part of a function's body from a region on: a great walk is cut into theorems there. A part of a function's body inside its loops: a great walk is cut into theorems there, for any exits. What the law TopKeelPlayed takes from the laws of chapter 5 (as in PolicyInformed). The law TopKeelPlayed: a round of the loop over the members, for any exits (written by gen/kplay.py). The law TopKeelPlayed from its tenth region on (written by gen/kplay2.py). The law TopKeelPlayed (written by gen/kplay3.py). The law TopKeelPlayed: for every input the call returns true, and each argument reads afterwards as before: the row's statement. -/
import Derived.Test.YtodinjclfmiohaaGreatKp05
import Derived.Maps.AppendAt
import Derived.Test.YtodinjclfmiohaaGreatKp02
import Derived.Test.YtodinjclfmiohaaGreatKp04
import Derived.Test.YtodinjclfmiohaaGreatKp06
import Derived.Test.YtodinjclfmiohaaGreatKp03
import Derived.Scope
import Derived.WalkMore
import Derived.OwnWalk
import Derived.Test.YtodinjclfmiohaaGreatKp01
import Derived.Deep.DeepCutAuto
import Derived.OwnWalkIn
import Derived.Lib.MinMax
set_option maxRecDepth 1000000
set_option maxHeartbeats 64000000
set_option linter.unusedVariables false
set_option linter.unusedSimpArgs false
set_option linter.constructorNameAsVariable false
namespace Go.Proofs
open Go.RowKit Go.Tw Go.Flow
attribute [local go_sem] Oper.semAt_some
structure Z7u (x:Plan):Prop where
 w:0 <= x.weight /\ x.weight <= 1000000000
 c:0 <= x.closings /\ x.closings <= 1000000000
 d:0 <= x.delay /\ x.delay <= 1000000000000
 l:x.closed.length <= 10000
theorem Q1r.weaken {α:Type} {w:World} {base base' k:Nat} {e:TypeId} {enc:α -> List Value} {v:Value} {xs:List α} (h:Q1r w base e k enc v xs) (hb:base' <= base):Q1r w base' e k enc v xs:=by
 obtain ⟨h1,h2⟩:=h;refine ⟨h1,?_⟩
 rcases h2 with h2 | ⟨g,cap,cur,hv,hbg,r⟩
 . exact .inl h2
 . exact .inr ⟨g,cap,cur,hv,Nat.le_trans hb hbg,r⟩
end Go.Proofs
namespace Go.Proofs
open Go.RowKit Go.Tw Go.Flow
attribute [local go_sem] Oper.semAt_some
def Part (w:World) (g off:Nat) (sub:Array Value):Prop:=∀ k (hk:k < sub.size),w.cell? ⟨g,off + k,none⟩ = some sub[k]
theorem Part.ext {w w':World} {g off:Nat} {sub:Array Value} (h:Part w g off sub) (hx:Ext w w'):Part w' g off sub:=fun k hk=>hx.cell (h k hk)
end Go.Proofs
namespace Go.Tw
open Go.RowKit Go.Flow
theorem Q1r.split {α:Type} {w:World} {B k:Nat} {e:TypeId} {enc:α -> List Value} {v:Value} {l:List α} (h:Q1r w B e k enc v l) :
    (v = .slice none 0 0 /\ l = []) ∨ ∃ g cap cur,v = .slice (some ⟨g,0,none⟩) l.length cap /\ B <= g /\ Blk w g e cur /\ l.length <= cap /\ cap <= maxLen /\ cur.size = cap * k /\ cur.toList.take (l.length * k) = l.flatMap enc:=by
 obtain ⟨h1,h2⟩:=h
 rcases h2 with ⟨rfl,h0⟩ | ⟨g,cap,cur,rfl,hbg,hg,hcap,hmax,hsz,ht⟩
 . exact .inl ⟨rfl,List.length_eq_zero_iff.1 h0⟩
 . exact .inr ⟨g,cap,cur,rfl,hbg,hg,hcap,hmax,hsz,ht⟩
theorem Q1r.reads {α:Type} {w:World} {B k:Nat} {e:TypeId} {enc:α -> List Value} {v:Value} {l:List α} (hk:∀ x,(enc x).length = k) (h:Q1r w B e k enc v l):∃ A cv,v = .slice A l.length cv /\ Hid (∀ j (hj:j < l.length),∃ gb,A = some ⟨gb,0,none⟩ /\ ∀ i,i < k -> w.cell? ⟨gb,j * k + i,none⟩ = (enc l[j])[i]?):=by
 rcases h.split with ⟨rfl,h0⟩ | ⟨gb,cap,cur,rfl,_,hb,_,_,_,htk⟩
 . exact ⟨none,0,by rw [h0]; rfl,Lib.hid (fun j hj=>by rw [h0] at hj; simp at hj)⟩
 . refine ⟨_,cap,rfl,Lib.hid (fun j hj=>⟨gb,rfl,fun i hi=>?_⟩)⟩
   have hm:(j + 1) * k <= l.length * k:=Nat.mul_le_mul_right _ hj;rw [Nat.succ_mul] at hm;rw [hb.cell,<- flat_get hk l j i hj hi,<- htk,List.getElem?_take,if_pos (by omega)]
   simp
end Go.Tw
namespace Go.Proofs
open Go.RowKit Go.Tw Go.Flow
attribute [local go_sem] Oper.semAt_some
end Go.Proofs
namespace Go.Tw
open Go.RowKit
variable {s:Q0c}
def under (s:Q0c) (t:Nat) (l:List Runner) (h:List Int):Bool:=l.any fun r=>decide (t < h.length) && (h == hs s r.member h.length)
structure PBd (k:Nat) (W:Int) (H:Nat) (x:Plan):Prop where
 w:0 <= x.weight /\ x.weight <= W
 c:0 <= x.closings /\ x.closings <= k * W
 d:0 <= x.delay /\ x.delay <= 1000 * (k * W)
 l:x.closed.length <= H
theorem PBd.both {k:Nat} {W V:Int} {H G:Nat} {x y:Plan} (hx:PBd k W H x) (hy:PBd k V G y):PBd k (W + V) (H + G) (both x y):=by
 have e:(k:Int) * (W + V) = k * W + k * V:=Int.mul_add _ _ _;obtain ⟨a,b,c,d⟩:=hx;obtain ⟨a',b',c',d'⟩:=hy
 constructor
 . show 0 <= x.weight + y.weight /\ x.weight + y.weight <= W + V; omega
 . show 0 <= x.closings + y.closings /\ x.closings + y.closings <= k * (W + V); rw [e]; omega
 . show 0 <= x.delay + y.delay /\ x.delay + y.delay <= 1000 * (k * (W + V)); rw [e]; omega
 . show (x.closed ++ y.closed).length <= H + G; rw [List.length_append]; omega
theorem PBd.mono {k:Nat} {W:Int} {H G:Nat} {x:Plan} (h:PBd k W H x) (hg:H <= G):PBd k W G x:=⟨h.w,h.c,h.d,Nat.le_trans h.l hg⟩
theorem PBd.up {k:Nat} {W:Int} {H:Nat} {x:Plan} (h:PBd k W H x) (hW:0 <= W):PBd (k + 1) W H x:=by
 have e:((k + 1:Nat):Int) * W = k * W + W:=by rw [Int.natCast_add,Int.add_mul]; simp
 refine ⟨h.w,?_,?_,h.l⟩
 . rw [e]; have:=h.c; omega
 . rw [e]; have:=h.d; omega
theorem PBd.close {k t:Nat} {l:List Runner} {H:Nat} {x:Plan} (h:PBd k (Y3h s l) H x) (hW:0 <= Y3h s l) (hd:0 <= ix s.ships t /\ ix s.ships t <= 1000):PBd (k + 1) (Y3h s l) (H + 1) (Z2i s t l x):=by
 have e:((k + 1:Nat):Int) * Y3h s l = k * Y3h s l + Y3h s l:=by rw [Int.natCast_add,Int.add_mul]; simp
 have m1:0 <= Y3h s l * ix s.ships t:=Int.mul_nonneg hW hd.1;have m2:Y3h s l * ix s.ships t <= Y3h s l * 1000:=Int.mul_le_mul_of_nonneg_left hd.2 hW;refine ⟨h.w,?_,?_,?_⟩
 . show 0 <= x.closings + Y3h s l /\ x.closings + Y3h s l <= _; rw [e]; have:=h.c; omega
 . show 0 <= x.delay + Y3h s l * ix s.ships t /\ x.delay + Y3h s l * ix s.ships t <= _; rw [e]; have:=h.d; omega
 . show (x.closed ++ [Z4l s t l]).length <= H + 1; rw [List.length_append]; have:=h.l; simp; omega
end Go.Tw
namespace Go.Proofs
open Go.RowKit Go.Tw Go.Flow
attribute [local go_sem] Oper.semAt_some
def Z6h (w:World) (ll:List (List Int)) (cl:List ByteArray) (rs:List (Value × Bool)):Prop:=∀ j (h1:j < rs.length) (h2:j < ll.length),Q0b w rs[j].1 ll[j] /\ rs[j].2 = cl.contains (X0s ll[j])
theorem Z6h.snoc {w:World} {ll:List (List Int)} {cl:List ByteArray} {rs:List (Value × Bool)} {k:Nat} (h:Z6h w ll cl rs) (hk:rs.length = k) {v:Value} {q:Bool} (hlt:k < ll.length) (hv:Q0b w v ll[k]) (hq:cl.contains (X0s ll[k]) = q):Z6h w ll cl (rs ++ [(v,q)]):=fun j h1 h2=>by
 by_cases hj:j < rs.length
 . rw [List.getElem_append_left hj]; exact h j hj h2
 . rw [List.length_append,List.length_singleton] at h1
   have:j = k:=by omega
   subst this;rw [List.getElem_append_right (by omega)]
   simp only [hk,Nat.sub_self,List.getElem_cons_zero];exact ⟨hv,hq.symm⟩
end Go.Proofs
namespace Go.Tw
open Go.RowKit Go.Flow
def Z6u (s:Q0c) (need:Int):Int:=Q0h [s.err,Q0e need 0 8000]
end Go.Tw
namespace Go.Proofs
open Go.RowKit Go.Tw Go.Flow
attribute [local go_sem] Oper.semAt_some
theorem X2z {P:Program} {ops:Array Oper} {Q:Exit -> Act -> World -> Prop} {rest:List Oper} {a:Act} {w:World} {T ty:TypeId} {p x:Operand} {pos} {after} (h:wpList P ops Q (⟨none,.store T p x,ty,pos,after,none⟩ :: rest) a w):wpList P ops Q (⟨none,.store T p x,ty,pos,after,none⟩ :: rest) a w:=h
theorem Q1w {a b:Int} (h:Q0h [a,b] = 0):a = 0 /\ b = 0:=by
 unfold Q0h at h
 by_cases ha:a = 0
 . subst ha
   simp [Q0h] at h;exact ⟨rfl,by by_cases hb:b = 0 <;> simp_all⟩
 . rw [if_neg ha] at h; exact absurd h ha
def Y6j (g:Nat) (T:TypeId) (cs:Array Value) (a b:World):Prop:=(∀ n,n <= g -> n <= a.heap.size -> Below n a b) /\ (∀ k,k < a.heap.size -> k ≠ g -> b.heap[k]? = a.heap[k]?) /\ (Blk a g T cs -> Blk b g T cs)
theorem Y6j.refl (g:Nat) (T:TypeId) (cs:Array Value) (a:World):Y6j g T cs a a:=⟨fun _ _ _=>Below.refl _ _,fun _ _ _=>rfl,id⟩
theorem Y6j.size {g:Nat} {T:TypeId} {cs:Array Value} {a b:World} (h:Y6j g T cs a b):a.heap.size <= b.heap.size:=(h.1 0 (Nat.zero_le _) (Nat.zero_le _)).size
theorem Y6j.trans {g:Nat} {T:TypeId} {cs:Array Value} {a b c:World} (h:Y6j g T cs a b) (k:Y6j g T cs b c):Y6j g T cs a c :=
 ⟨fun n hn hs=>(h.1 n hn hs).trans (k.1 n hn (Nat.le_trans hs h.size)),fun j hj hne=>(k.2.1 j (Nat.lt_of_lt_of_le hj h.size) hne).trans (h.2.1 j hj hne),fun x=>k.2.2 (h.2.2 x)⟩
theorem Y6j.ext {g:Nat} {T:TypeId} {cs:Array Value} {a b:World} (h:Ext a b):Y6j g T cs a b :=
 ⟨fun _ _ hs=>h.below hs,fun k hk _=>h.block k hk,fun x=>x.ext h⟩
theorem Y6j.blk {g j:Nat} {T S:TypeId} {cs ds:Array Value} {a b:World} (h:Y6j g T cs a b) (hb:Blk a j S ds) (hne:j ≠ g):Blk b j S ds:=(h.2.1 j hb.lt hne).trans hb
theorem Y0u {a b:World} {g i k:Nat} {u:Value} (h:a.cell? ⟨i,k,none⟩ = some u) (hne:i ≠ g) (hk:∀ k,k < a.heap.size -> k ≠ g -> b.heap[k]? = a.heap[k]?):b.cell? ⟨i,k,none⟩ = some u:=by
 have hlt:i < a.heap.size:=World.block_lt_of_cell? a _ h;rw [<- h];unfold World.cell?;rw [hk i hlt hne]
end Go.Proofs
namespace Go.Proofs
open Go.RowKit Go.Tw Go.Flow
attribute [local go_sem] Oper.semAt_some
def Y7u (w:World) (ll:List (List Int)) (cl:Bool) (rs:List (Value × Bool)):Prop:=∀ j (h1:j < rs.length) (h2:j < ll.length),Q0b w rs[j].1 ll[j] /\ rs[j].2 = cl
theorem Y7u.snoc {w:World} {ll:List (List Int)} {cl:Bool} {rs:List (Value × Bool)} {k:Nat} (h:Y7u w ll cl rs) (hk:rs.length = k) {v:Value} {q:Bool} (hlt:k < ll.length) (hv:Q0b w v ll[k]) (hq:cl = q):Y7u w ll cl (rs ++ [(v,q)]):=fun j h1 h2=>by
 by_cases hj:j < rs.length
 . rw [List.getElem_append_left hj]; exact h j hj h2
 . rw [List.length_append,List.length_singleton] at h1
   have:j = k:=by omega
   subst this;rw [List.getElem_append_right (by omega)]
   simp only [hk,Nat.sub_self,List.getElem_cons_zero];exact ⟨hv,hq.symm⟩
theorem Q3q {P:Program} {fn:Func} {p q:Tmp} {T:TypeId} (h:fn.results = #[.cell p T,.tmp q]) {tmps:Array Value} {w:World} {g:Nat} (ht:tmps.getD p undef = .pointer (some ⟨g,0,none⟩)) {BT:TypeId} {cs:Array Value} (hb:Blk w g BT cs)
    (hA:∀ w,(isAgg T).run P w = .ok true w) (hS:∀ w,(sizeOf T).run P w = .ok cs.size w) {v:Value} (hq:tmps.getD q undef = v):(results fn tmps).run P w = .ok (.tuple #[.agg cs,v]) w:=by
 unfold results;rw [h];simp only [List.mapM_toArray,List.mapM_cons,List.mapM_nil,Sem.run_bind,Sem.run_pure,ht,hq,asAddr];simp [Q3v hb hA hS]
end Go.Proofs
namespace Go.Proofs
open Go.RowKit Go.Tw Go.Flow
attribute [local go_sem] Oper.semAt_some
def Q9k (s:Q0c) (p:List Rul) (n:Int):Int:=Q0h [Q2o s p,Q0t (X2o s n) 10]
theorem Y5a {s:Q0c} {p:List Rul} {n:Int} (h:Q9k s p n = 0):Q1d s /\ Q0x s.hist p = 0 /\ 0 <= n /\ n < s.members.length:=by
 obtain ⟨h1,h2⟩:=Q1w h;obtain ⟨h3,h4⟩:=X3k h1;refine ⟨h3,h4,?_⟩;unfold X2o Q0t at h2
 by_cases h0:n < 0 <;> by_cases h1:(s.members.length:Int) <= n <;> simp [h0,h1] at h2 ⊢ <;> omega
def Y9q (s:Q0c) (p:List Rul) (n:Int):List Bool:=if Q9k s p n = 0 then Q0u p (Q0f s.members n.toNat) else []
def Z0a (s:Q0c) (p:List Rul) (n:Int):List Int:=if Q9k s p n = 0 then (Q1z s n.toNat).Q2y (Q0u p (Q0f s.members n.toNat)) else []
theorem X8v {a:World} {g i k n c m d:Nat} {T:TypeId} {A B:Option Addr} {u:Value} (hg:Blk a g T #[.slice A n c,.slice B m d]) (h:a.cell? ⟨i,k,none⟩ = some u) (hu:∀ A n c,u ≠ .slice A n c):i ≠ g:=by
 rintro rfl;rw [hg.cell] at h
 rcases k with _ | _ | k
 . simp at h; exact hu _ _ _ h.symm
 . simp at h; exact hu _ _ _ h.symm
 . simp at h
theorem Q5s {a b:World} {g n c m d:Nat} {T:TypeId} {A B:Option Addr} {v:Value} {l:List Int} (h:Q0b a v l) (hg:Blk a g T #[.slice A n c,.slice B m d]) (hk:∀ k,k < a.heap.size -> k ≠ g -> b.heap[k]? = a.heap[k]?):Q0b b v l:=by
 obtain ⟨f,⟨A',cap,hv,hn,hcap,hc⟩,h2⟩:=h;refine ⟨f,⟨A',cap,hv,hn,hcap,fun j hj=>?_⟩,h2⟩;obtain ⟨b',off,hA,hcell⟩:=hc j hj;have e:=h2 j (by omega)
 simp only [Nat.mul_one,Nat.add_zero] at e;exact ⟨b',off,hA,Y0u hcell (X8v hg hcell (by rw [e]; intro _ _ _ hh; cases hh)) hk⟩
theorem Tryz.Z5e (w:World):(isAgg 80).run Tryz.prog w = .ok true w:=by kernel_rfl
theorem Tryz.X8p (w:World):(sizeOf 80).run Tryz.prog w = .ok 2 w:=by kernel_rfl
theorem Q5l {A B:Option Addr} {n c m d:Nat}:∀ u ∈ (#[Value.slice A n c,.slice B m d]:Array Value).toList,u.oneCell' = true:=by
 intro u hu;simp only [List.mem_cons,List.not_mem_nil,or_false] at hu
 rcases hu with rfl | rfl <;> rfl
end Go.Proofs
namespace Go.Proofs
open Go.RowKit Go.Tw Go.Flow
attribute [local go_sem] Oper.semAt_some
theorem Y5p {w:World} {B:Nat} {T:TypeId} {v:Value} {vs:List Value} {i:Nat} (h:Q0g w B T idV v vs) (hi:i < vs.length):∃ g c,v = .slice (some ⟨g,0,none⟩) vs.length c /\ w.cell? ⟨g,i,none⟩ = some (vs.getD i undef):=by
 rcases h.2 with ⟨_,hn⟩ | ⟨g,cap,cur,hv,_,hg,hc,hm,hs,ht⟩
 . omega
 . refine ⟨g,cap,hv,?_⟩
   have h1:=congrArg (fun l=>l[i]?) ht;simp only [Nat.mul_one,List.getElem?_take,hi,if_true] at h1;have h2:(vs.map idV)[i]? = some (vs.getD i undef):=by simp [idV,hi]
   rw [h2] at h1;simp only [World.cell?,hg]
   simpa using h1
theorem X6k {α:Type} {enc:α -> Value} {w w':World} {v:Value} {l:List α} {B g:Nat} {T S:TypeId} {cs:Array Value} (h:Q0g w B T enc v l) (hb:Blk w g S cs) (hT:S ≠ T) (ho:∀ k,k < w.heap.size -> k ≠ g -> w'.heap[k]? = w.heap[k]?):Q0g w' B T enc v l:=by
 obtain ⟨h1,h2⟩:=h;refine ⟨h1,?_⟩
 rcases h2 with h2 | ⟨g',cap,cur,hv,hbb,hgl,r⟩
 . exact .inl h2
 . refine .inr ⟨g',cap,cur,hv,hbb,?_,r⟩
   rw [ho g' (Array.getElem?_eq_some_iff.1 hgl).1 ?_]; exact hgl;rintro rfl;unfold Blk at hb;rw [hb] at hgl;injection hgl with hgl;injection hgl with _ h3 _;exact hT h3
theorem X7u (w:World) (v u:Value) (s:Q0c) (p:List Rul) (hv:Q0o w v s) (hu:Q1q w u p) (hS:Q1d s) (hp:Q0x s.hist p = 0) :
    Calls Tryz.prog 48 #[v,u] w fun e w'=>∃ x vs,e = .returned x /\ Q0g w' 0 78 idV x vs /\ Q7d w' 4 .bool vs (Q2n s p) /\ Ext w w':=by
 have HND:=Lib.hid (X4l hS hp);have HDI:=Lib.hid (X1w hS hp);have HL8:=Lib.hid (X6y hS hp);have HS:=Lib.hid hS;obtain ⟨a,b,rfl,h2⟩:=hv;obtain ⟨rv,rfl,hr⟩:=hu;obtain ⟨A,capa,rfl,-,-,-⟩:=h2.ships.opened;obtain ⟨M,capb,rfl,-,-,-⟩:=h2.members.opened;have HRU:=Lib.hid hr;obtain ⟨R,capr,rfl,-,-,-⟩:=hr.opened;have H2:=Lib.hid h2;clear h2 hr hS hp;go_enter Tryz.func48,Tryz.ntmps48;go_upto_region 1 with fail;change Code.wp _ _ _ _ ((w.alloc (.cells #[.int .i64 s.limit,.slice A s.ships.length capa,.slice M s.members.length capb] 74)).alloc (.cells #[.slice R p.length capr] 64));obtain ⟨W,hWW,k0,k1,HXW,eW⟩:=Q5t w 74 #[.int .i64 s.limit,.slice A s.ships.length capa,.slice M s.members.length capb] 64 #[.slice R p.length capr];rw [hWW];clear hWW;have hmm:=@run_makeMap Tryz.prog;have hb0:=Ext.box W (.map #[] 0);have hb1:=Ext.box (W.alloc (.map #[] 0)) (.cells #[.map (some (w.heap.size + 1 + 1))] 193);have m0:=(Q1m.made W).ext hb1;rw [eW] at m0;have kb:=Blk.made (W.alloc (.map #[] 0)) 193 #[.map (some (w.heap.size + 1 + 1))];have es:(W.alloc (.map #[] 0)).heap.size = W.heap.size + 1:=by simp
 have es2:((W.alloc (.map #[] 0)).alloc (.cells #[.map (some (w.heap.size + 1 + 1))] 193)).heap.size = W.heap.size + 1 + 1:=by simp
 rw [es,eW] at kb;rw [eW] at es2;have KS:=k0.ext (hb0.trans hb1);have KP:=k1.ext (hb0.trans hb1);have n1:=KP.cell 0;simp only [Go.Tw.gA,Go.Tw.gB] at n1;go_wp2;obtain ⟨V,hV⟩:∃ V,(W.alloc (.map #[] 0)).alloc (.cells #[.map (some (w.heap.size + 1 + 1))] 193) = V:=⟨_,rfl⟩;have hxV:Ext w V:=HXW.out.trans (by rw [<- hV]; exact hb0.trans hb1)
 rw [hV] at m0 kb KS KP es2 ⊢;obtain ⟨b,hb⟩:∃ b,w.heap.size + 1 + 1 = b:=⟨_,rfl⟩;rw [hb] at m0 kb es2 ⊢;have hwb:w.heap.size < b:=by omega
 have hwb1:w.heap.size + 1 < b:=by omega
 obtain ⟨gs,hgs⟩:∃ x,w.heap.size = x:=⟨_,rfl⟩;have HGS:=Lib.hid hgs;rw [hgs] at KS KP hwb hwb1 ⊢;have HKS:=Lib.hid KS;have HXV:=Lib.hid hxV;have HM0:=Lib.hid m0;have HKB:=Lib.hid kb;have HVS:=Lib.hid es2;clear hb0 hb1 m0 kb es es2 KS KP n1 hV hxV hb eW HXW k0 k1 hgs hmm
 go_loopw [12] (fun i wr=>∃ k:Nat,k <= p.length /\ i = .int .i64 k /\ Q1m wr b (Q3o p k) /\ Blk wr (b + 1) 193 #[.map (some b)] /\ Below b V wr) (fun i _=>p.length - (intOf i).toNat)
 case atStart=>exact ⟨0,Nat.zero_le _,rfl,HM0.out,HKB.out,Below.refl _ _⟩
 case round =>
  obtain ⟨k,hk,rfl,hmap,hblk,hbel⟩:=hrel;have HMP:=Lib.hid hmap;have HBL:=Lib.hid hblk;have HBE:=Lib.hid hbel
  by_cases hlt:k < p.length
  . obtain ⟨_,_,hRe,_,_,hc⟩:=HRU.out.opened
    cases hRe;obtain ⟨br,orr,xr,rfl,hbr,hx0,hx1,hxi⟩:=hc k hlt;have hbr':br < b:=by have:=HGS.out; omega
    have hy0:=(hbel.cell (p:=⟨br,orr + k * 2,none⟩) hbr').trans (HXV.out.cell hx0);have hy1:=(hbel.cell (p:=⟨br,orr + k * 2 + 1,none⟩) hbr').trans (HXV.out.cell hx1);obtain ⟨Xr,cxr,rfl,-,-,-⟩:=hxi.opened;have hwr:Below w.heap.size w wr:=Below.trans HXV.out (hbel.mono (by have:=HGS.out; omega))
    have HIW:=Lib.hid (hxi.ext hwr);have HDK:=Lib.hid (HDI.out k hlt);have HLK:Hid ((Q0l p k).length <= 4096):=Lib.hid (by have:=HL8.out k hlt; omega)
    have HSUC:Hid (Q3o p (k + 1) = X5t (X0s (Q0l p k)) (.bool (Q3d p k)) (Q3o p k)):=Lib.hid rfl;obtain ⟨lc,hlc⟩:∃ x,Q0l p k = x:=⟨_,rfl⟩;obtain ⟨cb,hcb⟩:∃ x,Q3d p k = x:=⟨_,rfl⟩;obtain ⟨L,hL⟩:∃ x,Q3o p k = x:=⟨_,rfl⟩;rw [hlc] at hy0 HIW HDK HLK HSUC;rw [hcb] at hy1 HSUC;rw [hL] at HMP HSUC;have hkI:(k:Int) < p.length:=by omega
    have hxb:=Ext.box wr (.cells #[.slice Xr lc.length cxr,.bool cb] 67);have kr:=Blk.made wr 67 #[.slice Xr lc.length cxr,.bool cb];have HXB:=Lib.hid hxb;have hwlt:b + 1 < wr.heap.size:=hblk.lt;clear hc hx0 hx1 hxi hwr hlc hcb hL hmap hblk hbel hbr hbr' hxb
    go_light
    go_wp2;obtain ⟨W5,hW5⟩:∃ X,wr.alloc (.cells #[.slice Xr lc.length cxr,.bool cb] 67) = X:=⟨_,rfl⟩;obtain ⟨g,hg⟩:∃ x,wr.heap.size = x:=⟨_,rfl⟩;rw [hW5] at HXB kr ⊢;rw [hg] at kr hwlt ⊢;have KR:=Lib.hid kr;have hdr:=(Ext.refl W5).drew;clear hW5 kr hy0 hy1 hg;refine Flow.Q4k [.w,.p,.w,.w,.p,.w,.last] [0,1,2,3,4,5,6] [[],[],[1],[1,2],[],[4],[0,1,2,3,4,5]] [6]
     [.c 0 (.map (some b)),.c 1 (.pointer (some ⟨g,0,none⟩)),.c 2 (.slice Xr lc.length cxr),.c 3 (.string (X0s lc)),.c 4 (.pointer (some ⟨g,1,none⟩)),.c 5 (.bool cb),.none]
     [fun v w1 w'=>Q1m w' b (X5t (X0s lc) (.bool cb) L) /\ (∀ n,n <= b -> Below n w1 w') /\ w1.grownBy w' (some b)] (by kernel_rfl) rfl (by kernel_rfl) ⟨?g0,?g1,?g2,?g3,?g4,?g5,?g6,trivial⟩ ?post
    case g0=>
     intro v w1 hx;intro bb hbb;subst hbb;have n0:w1.cell? ⟨b + 1,0,none⟩ = some (.map (some b)):=(HBL.out.ext (HXB.out.trans (hdr.trans hx))).cell 0;intro K hK;go_simp;exact hK _ _ (Ext.refl _) rfl
    case g1 | g4=>
     intro v w1 hx;intro bb hbb;subst hbb;refine ⟨_,fun w=>?_,rfl⟩;go_simp
    case g2 | g5=>
     intro v w1 hx;(repeat intro (zq:v _ = _));intro bb hbb;subst hbb;have n0:w1.cell? ⟨g,0,none⟩ = some (.slice Xr lc.length cxr):=(KR.out.ext (hdr.trans hx)).cell 0;have n1:w1.cell? ⟨g,1,none⟩ = some (.bool cb):=(KR.out.ext (hdr.trans hx)).cell 1;intro K hK;go_simp;exact hK _ _ (Ext.refl _) rfl
    case g3=>
     intro v w1 hx;(repeat intro (zq:v _ = _));intro bb hbb;subst hbb;intro K hK;go_simp;refine Q0d (Y2y w1 _ lc (HIW.out.ext (HXB.out.trans (hdr.trans hx))) HLK.out HDK.out) ?_;rintro e w2 ⟨rfl,hx2⟩;exact ⟨_,rfl,hK _ _ hx2 rfl⟩
    case g6=>
     intro v w1 hx;(repeat intro (zq:v _ = _));intro wl hT;obtain rfl:wl = w1:=hT;intro bb hbb;intro K hK;have o1:bb.eval (.tmp 16) = .map (some b):=by rw [hbb]; dsimp only; (try simp (discharger:=decide) only [eval_put_ne]); rw [Q0a (by exact (by decide:16 < 27))]; assumption
     have o2:bb.eval (.tmp 19) = .string (X0s lc):=by rw [hbb]; dsimp only; (try simp (discharger:=decide) only [eval_put_ne]); rw [Q0a (by simp only [size_put]; exact (by decide:19 < 27))]; assumption
     have o3:bb.eval (.tmp 21) = .bool cb:=by rw [hbb]; dsimp only; (try simp (discharger:=decide) only [eval_put_ne]); rw [Q0a (by simp only [size_put]; exact (by decide:21 < 27))]; assumption
     obtain ⟨w2,hput,hm2,hb2,hg2⟩:=Q2u (P:=Tryz.prog) (HMP.out.ext (HXB.out.trans (hdr.trans hx))) Y7i Z3c (X0s lc) (.bool cb);exact Y1e (.tmp 16) (.tmp 19) (.tmp 21) rfl o1 o2 o3 hput (fun vv=>hK _ _ ⟨hm2,hb2,hg2⟩)
    case post =>
     intro v w1 hx;(iterate 6 intro (zq:v _ = _));intro w2 hE;replace hE:(fun v w1 w'=>Q1m w' b (X5t (X0s lc) (.bool cb) L) /\ (∀ n,n <= b -> Below n w1 w') /\ w1.grownBy w' (some b)) v w1 w2:=hE;simp only [Flow.acts,Act.put];go_simp;obtain ⟨hm2,hb2,hg2⟩:=hE;have hxx:=HXB.out.trans (hdr.trans hx);have hbl1:=HBL.out.ext hxx;have hbl2:Blk w2 (b + 1) 193 #[.map (some b)]:=by
      unfold Blk at hbl1 ⊢;rw [hg2.block (b + 1) (Array.getElem?_eq_some_iff.1 hbl1).1 (by intro e; injection e with e; omega)]
      exact hbl1
     have hbe2:Below b V w2:=Below.trans HBE.out (Below.trans (hxx.mono (by have:=HBL.out.lt; omega)) (hb2 b (Nat.le_refl _)))
     have HM2:=Lib.hid hm2;have HB2:=Lib.hid hbl2;have HE2:=Lib.hid hbe2;clear hx hdr hm2 hb2 hg2 hxx hbl1 hbl2 hbe2;(repeat clear zq);go_wp2;go_roundw
     case rel=>exact ⟨k + 1,by omega,by go_num,by rw [HSUC.out]; exact HM2.out,HB2.out,HE2.out⟩
     case measure=>simp [intOf]; omega
  . have hke:k = p.length:=by omega
    subst hke;have ks:=HKS.out.below hbel hwb;have c2:=ks.cell 2;simp only [Go.Tw.gA,Go.Tw.gB,Go.Tw.gC] at c2;have hwr:Ext w wr:=Below.trans HXV.out (hbel.mono (by have:=HGS.out; omega))
    have HMC:=Lib.hid (Q7t wr _ s p (b + 1) b (H2.out.members.ext hwr) HS.out HND.out HDI.out (hblk.cell 0) hmap);have HWR:=Lib.hid hwr;clear ks hmap hblk hbel hwr;go_wp2_with (go_at_call 95; refine HMC.out.mono ?_; rintro e w5 ⟨x,vs,rfl,hx1,hx2,hx5⟩; have HXX:=Lib.hid hx1; have HRR:=Lib.hid hx2; have HX5:=Lib.hid hx5; clear hx1 hx2 hx5);go_ret;exact ⟨x,vs,rfl,Q0g.weaken HXX.out (Nat.zero_le _),HRR.out,HWR.out.trans HX5.out⟩
def Z6x (s:Q0c) (p:List Rul) (n:Int) (e:Ending) (w':World):Prop:=∃ x y,e = .returned (.tuple #[.agg #[x,y],.int .i64 (Q9k s p n)]) /\ Q0g w' 0 4 .bool x (Y9q s p n) /\ Q0b w' y (Z0a s p n)
theorem Y5k (w:World) (v u:Value) (s:Q0c) (p:List Rul) (n:Int) (hv:Q0o w v s) (hu:Q1q w u p) (hs:Q3z s) (hp:p.length <= 1000) :
    Calls Tryz.prog 19 #[v,u,.int .i64 n] w fun e w'=>Z6x s p n e w' /\ Ext w w':=by
 obtain ⟨a,b,rfl,h2⟩:=hv;obtain ⟨rv,rfl,hr⟩:=hu;obtain ⟨A,capa,rfl,-,-,-⟩:=h2.ships.opened;obtain ⟨B,capb,rfl,-,-,-⟩:=h2.members.opened;obtain ⟨R,capr,rfl,-,-,-⟩:=hr.opened;have H2:=Lib.hid h2;have HR:=Lib.hid hr;have HS:=Lib.hid hs;have HE1:Hid (∀ (W:World) (u:Value),Q0b W u [Q2o s p,Q0t (X2o s n) 10] -> Calls Tryz.prog 45 #[u] W fun e W'=>e = .returned (.int .i64 (Q9k s p n)) /\ W = W'):=Lib.hid (fun W u h=>first_any W u _ h);clear h2 hr hs;go_enter Tryz.func19,Tryz.ntmps19;go_upto_region 1 with fail;change Code.wp _ _ _ _ (((w.alloc (.cells #[.int .i64 s.limit,.slice A s.ships.length capa,.slice B s.members.length capb] 74)).alloc (.cells #[.slice R p.length capr] 64)).alloc (.cells #[.slice none 0 0,.slice none 0 0] 80));obtain ⟨W,hWW,k0,k1,k2,HXW,eW⟩:=X3m w 74 #[.int .i64 s.limit,.slice A s.ships.length capa,.slice B s.members.length capb] 64 #[.slice R p.length capr] 80 #[.slice none 0 0,.slice none 0 0];rw [hWW];clear hWW;have K0:=Lib.hid k0;have K1:=Lib.hid k1;have K2:=Lib.hid k2;clear k0 k1 k2;have hdr:=(Ext.refl W).drew;have HSE:Hid (∀ W',Ext W W' -> Q0o W' (.agg #[.int .i64 s.limit,.slice A s.ships.length capa,.slice B s.members.length capb]) s):=Lib.hid (fun W' hW=>⟨_,_,rfl,H2.out.ext (HXW.out.trans hW)⟩);have HPO:Hid (∀ W',Ext W W' -> Q1q W' (.agg #[.slice R p.length capr]) p):=Lib.hid (fun W' hW=>⟨_,rfl,HR.out.ext (HXW.out.trans hW)⟩);refine Flow.Q1p [.w,.w,.w,.w,.p,.w,.w,.w,.p] [0,1,2,3,4,5,6,7,8] [[],[],[0,1],[],[],[2,3,4],[2,5],[5,6],[0,1,2,3,4,5,6,7]]
  [.c 0 (.agg #[.int .i64 s.limit,.slice A s.ships.length capa,.slice B s.members.length capb]),.c 1 (.agg #[.slice R p.length capr]),.c 2 (.int .i64 (Q2o s p)),.c 3 (.agg #[.int .i64 s.limit,.slice A s.ships.length capa,.slice B s.members.length capb]),.c 4 (.int .i64 n),.c 5 (.int .i64 (Q0t (X2o s n) 10)),⟨fun v wz=>(fun v w'=>Q0b w' (v 6) [Q2o s p,Q0t (X2o s n) 10]) v wz,by intro v a b hx h; exact Q0b.ext h hx⟩,.c 7 (.int .i64 (Q9k s p n)),.c 8 (.int .i64 (Q9k s p n))]
  (by kernel_rfl) rfl (by kernel_rfl) ⟨?g0,?g1,?g2,?g3,?g4,?g5,?g6,?g7,?g8,trivial⟩ ?post
 case g0 | g3=>
  intro v w1 hx;intro bb hbb;intro K hK;have o1:bb.eval (.tmp 3) = .pointer (some ⟨w.heap.size,0,none⟩):=by rw [hbb]; dsimp only; (try simp (discharger:=decide) only [eval_put_ne]); rfl
  exact Q0s (.tmp 3) _ rfl Tryz.Z3e Tryz.Y8k o1 (K0.out.ext (hdr.trans hx)) rfl (hK _ _ (Ext.refl _) rfl)
 case g1=>
  intro v w1 hx;intro bb hbb;intro K hK;have o1:bb.eval (.tmp 4) = .pointer (some ⟨w.heap.size + 1,0,none⟩):=by rw [hbb]; dsimp only; (try simp (discharger:=decide) only [eval_put_ne]); rfl
  exact Q0s (.tmp 4) _ rfl Tryz.Y1v Tryz.X7i o1 (K1.out.ext (hdr.trans hx)) rfl (hK _ _ (Ext.refl _) rfl)
 case g2=>
  intro v w1 hx;(repeat intro (zq:v _ = _));intro bb hbb;subst hbb;intro K hK;go_simp;refine Q0d (Q6i w1 _ _ s p (HSE.out w1 (hdr.trans hx)) (HPO.out w1 (hdr.trans hx)) HS.out hp) ?_;rintro e w2 ⟨rfl,hx2⟩;exact ⟨_,rfl,hK _ _ hx2 rfl⟩
 case g4=>
  intro v w1 hx;intro bb hbb;subst hbb;refine ⟨_,fun w=>?_,rfl⟩;go_simp
 case g5=>
  intro v w1 hx;(repeat intro (zq:v _ = _));intro bb hbb;subst hbb;intro K hK;go_simp;refine Q0d (Q6x w1 _ s n (HSE.out w1 (hdr.trans hx))) ?_;rintro e w2 ⟨rfl,hx2⟩;exact ⟨_,rfl,hK _ _ hx2 rfl⟩
 case g6=>
  intro v w1 hx;(repeat intro (zq:v _ = _));intro bb hbb;subst hbb;intro K hK;go_simp;exact hK _ _ (Ext.box _ _) (Q2b (l:=[Q2o s p,Q0t (X2o s n) 10]) (by simp))
 case g7=>
  intro v w1 hx (q5:v 5 = _) (q6:(fun v w'=>Q0b w' (v 6) [Q2o s p,Q0t (X2o s n) 10]) v w1);intro bb hbb;subst hbb;intro K hK;go_simp;refine Q0d (HE1.out w1 _ q6) ?_;rintro e w2 ⟨rfl,rfl⟩;exact ⟨_,rfl,hK _ _ (Ext.refl _) rfl⟩
 case g8=>
  intro v w1 hx (q0:v 0 = _) (q1:v 1 = _) (q2:v 2 = _) (q3:v 3 = _) (q4:v 4 = _) (q5:v 5 = _) _ (q7:v 7 = _);intro bb hbb;subst hbb;refine ⟨_,fun w=>?_,rfl⟩;go_simp
 case post =>
  intro v w1 hx;(iterate 6 intro (zq:v _ = _));intro (q6:(fun v w'=>Q0b w' (v 6) [Q2o s p,Q0t (X2o s n) 10]) v w1);(iterate 2 intro (zq:v _ = _));simp only [Flow.All,Flow.acts,Act.put];go_simp;have HX5:=Lib.hid (HXW.out.trans (hdr.trans hx));have HK0:=Lib.hid (K0.out.ext (hdr.trans hx));have HK1:=Lib.hid (K1.out.ext (hdr.trans hx));have HK2:=Lib.hid (K2.out.ext (hdr.trans hx));obtain ⟨w5,rfl⟩:∃ X,X = w1:=⟨_,rfl⟩;clear hx hdr q6;(repeat clear zq)
  by_cases he:Q9k s p n = 0
  . obtain ⟨hV,hre,hn0,hn1⟩:=Y5a he
    have h6:=hV.tides;have HF:Hid (Y9q s p n = Q0u p (Q0f s.members n.toNat) /\ Z0a s p n = (Q1z s n.toNat).Q2y (Q0u p (Q0f s.members n.toNat))):=Lib.hid ⟨if_pos he,if_pos he⟩;have hne:(Q9k s p n != 0) = false:=by simp [he]
    obtain ⟨i,rfl⟩:∃ i:Nat,n = (i:Int):=⟨n.toNat,by omega⟩
    have him:i < s.members.length:=by omega
    rw [Int.toNat_natCast] at HF;have HPE:=Lib.hid he;have hok:=Y8z hV him (n:=s.ships.length) (Nat.le_refl _);have hcl:(Q0u p (Q0f s.members i)).length = s.ships.length:=by rw [Q4f,(hV.shaped i him).1]
    have HCC:=Lib.hid (X7u w5 _ _ s p ⟨_,_,rfl,H2.out.ext HX5.out⟩ ⟨_,rfl,HR.out.ext HX5.out⟩ hV hre);have HPK:=Lib.hid (fun (W:World) (v u:Value) (hv:X4z W v (Q1z s i)) (hu:Q2c W u (Q0u p (Q0f s.members i)))=>X0v W v u (Q1z s i) _ hv hu (by omega) (by rw [hcl]; exact hok))
    have HCG:=Lib.hid (Q8g p him);have hcl2:=Lib.hid hcl;have HT6:=Lib.hid h6.2;obtain ⟨E,hE⟩:∃ E,Q9k s p (i:Int) = E:=⟨_,rfl⟩;have HE0:=Lib.hid (hE.symm.trans he);have c0:=(HK0.out).cell 0;have c1:=(HK0.out).cell 1;have c2:=(HK0.out).cell 2;simp only [Go.Tw.gA,Go.Tw.gB,Go.Tw.gC] at c0 c1 c2;have d0:=(HK1.out).cell 0;simp only [Go.Tw.gA,Go.Tw.gB] at d0;rw [hE] at hne ⊢;rw [HE0.out];clear hV hre hn0 hn1 he hE hok hcl h6;go_wp2_with (go_at_call 48; refine HCC.out.mono ?_; rintro e w6 ⟨x6,vs6,rfl,h1,h1b,h2⟩; refine halted ?_);have HX6:=Lib.hid h2;have hvl:vs6.length = s.members.length:=by rw [h1b.1,Q2s]
    obtain ⟨bu,cb,rfl,hxk⟩:=Y5p h1 (by rw [hvl]; exact him:i < vs6.length)
    have hbo:=h1b.2 i (by rw [Q2s]; exact him)
    rw [HCG.out] at hbo;obtain ⟨uk,huk⟩:∃ z,vs6.getD i undef = z:=⟨_,rfl⟩;rw [huk] at hxk hbo;rw [hvl];have hbk:=hbo.bools (by rw [hcl2.out]; have:=HT6.out; omega)
    obtain ⟨Uk,ck,hk,-,-,-⟩:=hbk.opened;subst hk;have HBO:=Lib.hid hbo;clear hvl huk hbo h1b;have HBK:=Lib.hid hbk;obtain ⟨bm,off,capx,capy,capz,X,Y,Z,hme⟩:=X8a (H2.out.ext (HX5.out.trans h2)).members him;obtain rfl:=hme.addr;have HME:=Lib.hid (hme.mem (Ext.refl w6));have e0:=hme.e0;have e1:=hme.e1;have e2:=hme.e2;have e3:=hme.e3;have e4:=hme.e4;have k6:=(HK0.out.ext h2).cell 2;simp only [Go.Tw.gA,Go.Tw.gB,Go.Tw.gC] at k6;have hiI:(i:Int) < s.members.length:=by omega
    have hpb:=HK2.out.ext h2;have HPP:=Lib.hid (HPK.out w6 _ _ HME.out HBK.out);clear h1 h2 hbk hme c0 c1 c2 d0;unfold Q5f;go_wp2_with (go_at_call 49; refine HPP.out.mono ?_; rintro e w7 ⟨x7,rfl,h1,h2⟩; refine halted ?_);have HX7:=Lib.hid h2;obtain ⟨R7,c7,hs7,-,-,-⟩:=h1.opened;subst hs7;have HI7:=Lib.hid h1;have hpb7:=hpb.ext h2;clear h1 h2 hpb e0 e1 e2 e3 e4 k6;unfold Q5f;go_wp2_with (with_reducible (refine X2z ?_); refine Q2a rfl _ _ _ rfl Tryz.X8p rfl rfl hpb7 rfl rfl Q5l ?_; intro w9 hb9 hl9 ho9);refine bodyPost_ret (Q3q Tryz.results19 rfl hb9 Tryz.Z5e Tryz.X8p rfl) rfl ?_;exact ⟨⟨_,_,by rw [HPE.out]; rfl,by rw [HF.out.1]; exact X6k (Q0g.below HBO.out HX7.out) hpb7 (by decide) (fun k _ hk=>ho9 k hk),by rw [HF.out.2]; exact Q5s HI7.out hpb7 (fun k _ hk=>ho9 k hk)⟩,Below.trans (HX5.out.trans (HX6.out.trans HX7.out)) (hl9 _ (by omega))⟩
  . have HF:Hid (Y9q s p n = [] /\ Z0a s p n = []):=Lib.hid ⟨if_neg he,if_neg he⟩
    have hne:(Q9k s p n != 0) = true:=by simp [he]
    obtain ⟨E,hE⟩:∃ E,Q9k s p n = E:=⟨_,rfl⟩;have HPE:=Lib.hid hE;have hp2:=HK2.out;rw [hE] at hne ⊢;clear he hE;go_wp2_with (with_reducible (refine X2z ?_); refine Q2a rfl _ _ _ rfl Tryz.X8p rfl rfl hp2 rfl rfl Q5l ?_; intro w9 hb9 hl9 ho9);refine bodyPost_ret (Q3q Tryz.results19 rfl hb9 Tryz.Z5e Tryz.X8p rfl) rfl ?_;exact ⟨⟨_,_,by rw [HPE.out]; rfl,by rw [HF.out.1]; exact Q0g.nil _ _ _ _,by rw [HF.out.2]; exact Go.Tw.Rows.nil _ _ _⟩,Below.trans HX5.out (hl9 _ (by omega))⟩
end Go.Proofs
namespace Go.Proofs
open Go.RowKit Go.Tw Go.Flow
theorem Q8r {α:Type} {P:Program} {K:Value -> World -> Prop} {o:Oper} {a:Act} {w:World} (s x:Operand) (t:TypeId) (ho:o.op = .call { callee:=.builtin .append,args:=#[s,x],argTypes:=#[t,t] })
    (base:Nat) (e:TypeId) (i:TypeInfo) (z:Value) (k bytes:Nat) (ht:P.underlying t = some (.slice e)) (hi:P.info? e = some i) (hz:i.zero = some z) (hsize:i.size = k) (hby:i.bytes = bytes) (hzs:z.cells.size = k) (hk0:0 < k)
    (enc:α -> List Value) (hk:∀ x,(enc x).length = k) (v:Value) (ys:List α) (hs:a.eval s = v) (hv:∃ g,v = .slice (some ⟨g,0,none⟩) 0 0 /\ base <= g /\ w.heap[g]? = some (.cells #[] e (0,0))) (A:Option Addr) (c:Nat) (hx:a.eval x = .slice A ys.length c)
    (hA:0 < ys.length -> ∃ ad,A = some ad /\ ∀ j u,(ys.flatMap enc)[j]? = some u -> w.cell? (ad.add j) = some u) (h1:∀ u ∈ ys.flatMap enc,u.oneCell' = true)
    (h63:ys.length <= 100000) (hb:bytes <= 1000) (hbase:base <= w.heap.size)
    (h:∀ v' w',Q1r w' base e k enc v' ys -> Ext w w' -> K v' w'):gives P K ((execOp a.eval o).run P w):=by
 obtain ⟨g,rfl,hbg,hg⟩:=hv;have hown:Q1r w base e k enc (.slice (some ⟨g,0,none⟩) 0 0) ([]:List α):=⟨by simp,.inr ⟨g,0,#[],rfl,hbg,hg,Nat.le_refl _,Nat.zero_le _,by simp,by simp⟩⟩
 cases ys with
 | nil =>
   unfold execOp;simp only [ho,resolve,invoke,builtin,Sem.run_bind,Sem.run_pure,Result.andThen_ok,List.map_toArray,List.map_cons,List.map_nil,hs,hx];rw [List.length_nil,Q3p (P:=P) w t o.type e i ht hi _ A 0 0 c (Nat.le_refl _)];exact h _ _ hown (Ext.refl _)
 | cons y ys =>
   obtain ⟨ad,rfl,hnews⟩:=hA (by simp)
   have hbytes:(y :: ys).length * bytes <= 140737488355328:=by
    have:(y :: ys).length * bytes <= 100000 * 1000:=Nat.mul_le_mul h63 hb;omega
   obtain ⟨v',w',hr,h2,h3,h4⟩:=run_append_own (P:=P) w base t o.type e i z k bytes ht hi hz hsize hby hzs hk0 _ 0 (([]:List α).flatMap enc) hown ad (y :: ys).length c ((y :: ys).flatMap enc) (Q3h hk _) hnews h1 (by unfold maxLen; omega) (by rw [Nat.zero_add]; exact hbytes) hbase
   have hgr:=run_append_grow (P:=P) w t o.type e i z ht hi hz ⟨g,0,none⟩ 0 0 [] (by simp) (by simp) ad (y :: ys).length c ((y :: ys).flatMap enc) (by rw [hsize]; exact Q3h hk _) hnews (by simp) (by simp only [List.length_cons] at h63 ⊢; omega) (by rw [hby]; exact growslice_fits (by simp) (by rw [Nat.zero_add]; exact hbytes))
   rw [hr] at hgr;injection hgr with hv' hw';unfold execOp;simp only [ho,resolve,invoke,builtin,Sem.run_bind,Sem.run_pure,Result.andThen_ok,List.map_toArray,List.map_cons,List.map_nil,hs,hx,hr];refine h v' w' ?_ (by rw [hw']; exact ((Ext.refl w).drew).alloc _)
   unfold Q1r
   simpa using h2
theorem Y7b {w:World} {A:Option Addr} {n cp:Nat} {l:List Rul} (h:Q1n w (.slice A n cp) l):∃ qs:List (Value × Rul),qs.map (·.2) = l /\ (∀ q ∈ qs,Q0b w q.1 q.2.classes) /\ (0 < qs.length -> ∃ ad,A = some ad /\ ∀ j z,(qs.flatMap Q4g)[j]? = some z -> w.cell? (ad.add j) = some z):=by
 obtain ⟨c,⟨A',cap',hv,_,_,hc⟩,h2⟩:=h;cases hv;refine ⟨(List.range l.length).map fun k=>(c (k * 2 + 0),l.getD k default),?_,?_,fun h0=>?_⟩
 . apply List.ext_getElem
   . simp
   . intro i h3 h4
     simp [h4]
 . intro q hq
   obtain ⟨k,hk,rfl⟩:=List.mem_map.1 hq;have hk:=List.mem_range.1 hk;have e:l.getD k default = l[k]:=by simp [hk]
   show Q0b w (c (k * 2 + 0)) (l.getD k default).classes;rw [e];exact (h2 k hk).1
 . have hl0:0 < l.length:=by simpa using h0
   obtain ⟨b,off,hA,-⟩:=hc 0 (by omega)
   refine ⟨_,hA,fun j z hj=>?_⟩;have hlen:((List.range l.length).map fun k=>(c (k * 2 + 0),l.getD k default)).length = l.length:=by simp
   have hjl:j < (((List.range l.length).map fun k=>(c (k * 2 + 0),l.getD k default)).flatMap Q4g).length:=(List.getElem?_eq_some_iff.1 hj).1;rw [Q3h Q3g,hlen] at hjl;obtain ⟨b',off',hA',hcell⟩:=hc j (by omega)
   rw [hA] at hA';cases hA';rw [addr_add,hcell];have e:j = j / 2 * 2 + j % 2:=by omega
   have hk:j / 2 < l.length:=by omega
   rw [e,flat_get Q3g _ (j / 2) (j % 2) (by rw [hlen]; exact hk) (by omega)] at hj
   have hr:=h2 (j / 2) hk;simp only [List.getElem_map,List.getElem_range] at hj
   rcases Nat.mod_two_eq_zero_or_one j with hm | hm
   . rw [hm] at hj e
     rw [e]
     simpa [Q4g] using hj
   . rw [hm] at hj e
     have h1':c (j / 2 * 2 + 1) = .bool l[j / 2].close:=hr.2;rw [e,h1'];have e2:l.getD (j / 2) default = l[j / 2]:=by simp [hk]
     rw [e2] at hj
     simpa [Q4g] using hj
end Go.Proofs
namespace Go.Proofs
open Go.RowKit Go.Tw Go.Flow
attribute [local go_sem] Oper.semAt_some
theorem clone_any (w:World) (v:Value) (l:List Int) (hv:Q0b w v l) :
    Calls Tryz.prog 93 #[v] w fun e w'=>∃ u,e = .returned u /\ Q0g w' 0 3 (.int .i64) u l /\ Ext w w':=by
 obtain ⟨A,cap,rfl,hl,hcap,hc⟩:=hv.opened;cases A with
 | none =>
   have hz:l = []:=by
    cases l with
    | nil=>rfl
    | cons x l=>obtain ⟨b,off,he,_⟩:=hc 0 (by simp); cases he
   subst hz;exact (Tryz.slices_Clone_int_nil _ _ _).mono fun e w' ⟨he,hw⟩=>⟨_,he,Q0g.nil _ _ _ _,by rw [hw]; exact Ext.refl _⟩
 | some a =>
   by_cases h0:l.length = 0
   . have hz:l = []:=List.length_eq_zero_iff.1 h0
     subst hz;exact (Tryz.slices_Clone_int_zero _ _ _).mono fun e w' ⟨v',he,hown,_,hx⟩=>⟨_,he,Q0g.weaken (show Q0g w' w.heap.size 3 (.int .i64) v' [] from hown) (Nat.zero_le _),hx⟩
   . obtain ⟨b,off,he,_⟩:=hc 0 (by omega)
     cases he;refine (Tryz.slices_Clone_int b off l.length cap l w (Nat.le_refl _) (by omega) (fun j hj=>?_)).mono fun e w' ⟨v',he,hown,_,hx⟩=>⟨_,he,Q0g.weaken (show Q0g w' w.heap.size 3 (.int .i64) v' l from by unfold Q0g; rw [List.take_length] at hown; exact hown) (Nat.zero_le _),hx⟩
     obtain ⟨b',off',he,h⟩:=hc j hj;cases he;exact h
theorem X9w (cur:Array Value) (vs:List Value) (h:vs.length = cur.size):Q1u cur 0 vs = vs.toArray:=by
 apply Array.ext_getElem?
 intro j;rw [Q3l _ _ _ _ (by omega)]
 by_cases hj:j < vs.length
 . rw [if_pos (by omega),Nat.sub_zero,List.getElem?_toArray]
 . rw [if_neg (by omega),Array.getElem?_eq_none (show cur.size <= j by omega)]
   symm
   rw [Array.getElem?_eq_none];rw [List.size_toArray]; omega
theorem X4q {P:Program} {w:World} {ops:Array Oper} {rest:List Oper} {o:Oper} {a:Act} {Q:Exit -> Act -> World -> Prop} (hgd:o.guard = none) (d s:Operand) (dT sT:TypeId) (ho:o.op = .call { callee:=.builtin .copy,args:=#[d,s],argTypes:=#[dT,sT] })
    (elem:TypeId) (hu:P.underlying dT = some (.slice elem)) {sz:Nat} (hs:∀ w,(sizeOf elem).run P w = .ok sz w) {n dcap scap:Nat} {g:Nat} {sp:Option Addr} (hd:a.eval d = .slice (some ⟨g,0,none⟩) n dcap) (hsv:a.eval s = .slice sp n scap)
    {T:TypeId} {cur:Array Value} (hb:Blk w g T cur) (cs:List Value) (hlen:cs.length = n * sz) (hsrc:∀ j v,cs[j]? = some v -> ∃ b off,sp = some ⟨b,off,none⟩ /\ w.cell? ⟨b,off + j,none⟩ = some v) (hfit:cs.length <= cur.size) (h1:∀ v ∈ cs,v.oneCell' = true)
    (hK:∀ w',Blk w' g T (Q1u cur 0 cs) -> (∀ n,n <= g -> Below n w w') -> (∀ k,k ≠ g -> w'.heap[k]? = w.heap[k]?) -> wpList P ops Q rest (a.put o.dst (goInt n)) w'):wpList P ops Q (o :: rest) a w:=by
 refine wpList_plain hgd fun K' hK'=>?_;unfold Oper.wp;obtain ⟨w',hr,hb',hl,hoo⟩:=X1p (P:=P) dT sT o.type elem hu hs n dcap scap hb sp cs hlen hsrc hfit h1;have hr2:(execOp a.eval o).run P w = .ok (.value (goInt n)) w':=by
  unfold execOp;simp only [ho,resolve,invoke,builtin,Sem.run_bind,Sem.run_pure,Result.andThen_ok,List.map_toArray,List.map_cons,List.map_nil,hd,hsv,hr]
 rw [hr2];exact hK' _ _ (hK w' hb' hl hoo)
def Y1i (p:List Rul) (c:Nat -> Value):List (Value × Rul):=(List.range p.length).map fun k=>(c (k * 2),p.getD k default)
theorem X3d (p:List Rul) (c:Nat -> Value):(Y1i p c).length = p.length:=by unfold Y1i; simp
theorem Y5w (p:List Rul) (c:Nat -> Value):(Y1i p c).map (·.2) = p:=by
 unfold Y1i;rw [List.map_map]
 apply List.ext_getElem
 . simp
 . intro i h1 h2
   simp [h2]
theorem X8i (p:List Rul) (c:Nat -> Value) {k:Nat} (hk:k < (Y1i p c).length):(Y1i p c)[k] = (c (k * 2),⟨Q0l p k,Q3d p k⟩):=by
 unfold Y1i Q0l Q3d;simp
theorem Y1n {w:World} {A:Option Addr} {n:Nat} {p:List Rul} {c:Nat -> Value} (hc:∀ j,j < n * 2 -> ∃ b off,A = some ⟨b,off,none⟩ /\ w.cell? ⟨b,off + j,none⟩ = some (c j)) (hn:p.length = n) (h2:∀ k (h:k < p.length),Z4e w (fun i=>c (k * 2 + i)) p[k]) :
    ∀ j v,((Y1i p c).flatMap Q4g)[j]? = some v -> ∃ b off,A = some ⟨b,off,none⟩ /\ w.cell? ⟨b,off + j,none⟩ = some v:=by
 subst hn;intro j v hj;have hlen:=Q3h Q3g (Y1i p c);rw [X3d] at hlen;have hjl:j < ((Y1i p c).flatMap Q4g).length:=(List.getElem?_eq_some_iff.1 hj).1;obtain ⟨b,off,hA,hcell⟩:=hc j (by omega)
 refine ⟨b,off,hA,?_⟩;rw [hcell];have e:j = j / 2 * 2 + j % 2:=by omega
 have hk:j / 2 < (Y1i p c).length:=by rw [X3d]; omega
 rw [e,flat_get Q3g (Y1i p c) (j / 2) (j % 2) hk (by omega),X8i] at hj
 have hk':j / 2 < p.length:=by rw [X3d] at hk; exact hk
 obtain ⟨_,h1⟩:=h2 (j / 2) hk';have h1:c (j / 2 * 2 + 1) = .bool p[j / 2].close:=h1
 rcases Nat.mod_two_eq_zero_or_one j with hm | hm
 . rw [hm] at hj e
   rw [e]
   simpa [Q4g] using hj
 . rw [hm] at hj e
   rw [e,h1];have:Q3d p (j / 2) = p[j / 2].close:=by unfold Q3d; rw [Q0r _ hk']
   simpa [Q4g,this] using hj
theorem Q1r.Z5a {α:Type} {w:World} {base g n k:Nat} {e:TypeId} {enc:α -> List Value} {l:List α} (hk:∀ x,(enc x).length = k) (hb:Blk w g e (l.flatMap enc).toArray) (hl:l.length = n) (hg:base <= g) (hn:n <= maxLen):Q1r w base e k enc (.slice (some ⟨g,0,none⟩) n n) l:=by
 subst hl;refine ⟨Q3h hk l,.inr ⟨g,l.length,_,rfl,hg,hb,Nat.le_refl _,hn,?_,?_⟩⟩
 . rw [List.size_toArray,Q3h hk]
 . rw [<- Q3h hk l,List.take_length]
def Y4u (w:World) (qs:List (Value × Rul)) (k:Nat):Prop:=∀ j (h:j < qs.length),j < k -> Q0g w 0 3 (.int .i64) qs[j].1 qs[j].2.classes
theorem Y4u.set {w:World} {qs:List (Value × Rul)} {k:Nat} {u:Value} {r:Rul} (h:Y4u w qs k) (hu:Q0g w 0 3 (.int .i64) u r.classes):Y4u w (qs.set k (u,r)) (k + 1):=by
 intro j hj hk;rw [List.length_set] at hj
 by_cases e:k = j
 . subst e
   rw [List.getElem_set_self]; exact hu
 . rw [List.getElem_set_ne e]
   exact h j hj (by omega)
theorem Y8m:∀ (qs:List (Value × Rul)) {k:Nat} (hk:k < qs.length) {u:Value},(qs.flatMap Q4g).toArray.setIfInBounds (k * 2) u = ((qs.set k (u,qs[k].2)).flatMap Q4g).toArray:=by
 intro qs
 induction qs with
 | nil=>intro k hk; simp at hk
 | cons q qs ih =>
   intro k hk u;cases k with
   | zero=>simp [Q4g]
   | succ k =>
     have h:=ih (k:=k) (by simpa using hk) (u:=u)
     simp only [List.setIfInBounds_toArray,Array.mk.injEq] at h;simp only [List.flatMap_cons,List.setIfInBounds_toArray,List.set_cons_succ,List.getElem_cons_succ,Q4g,Array.mk.injEq];rw [<- h,show (k + 1) * 2 = k * 2 + 1 + 1 by omega]
     rfl
theorem Z0c {p:List Rul} {qs:List (Value × Rul)} {k:Nat} {x v:Value} {r:Rul} (hk:k < qs.length) (h:qs.map (·.2) = p) (e:qs[k] = (x,r)):p.set k ((v,r):Value × Rul).2 = p:=by
 have:(qs.map (·.2))[k]'(by simpa using hk) = r:=by rw [List.getElem_map,e]
 subst h
 apply List.ext_getElem
 . simp
 . intro i h1 h2
   by_cases hi:k = i
   . subst hi; rw [List.getElem_set_self]; exact this.symm
   . rw [List.getElem_set_ne hi]
def Y0b (w w':World) (p:List Rul) (n:Nat) (e:Ending):Prop:=∃ g qs,e = .returned (.agg #[.slice (some ⟨g,0,none⟩) n n]) /\ Blk w' g 67 (qs.flatMap Q4g).toArray /\ w.heap.size <= g /\ qs.map (·.2) = p /\ RuR w' qs /\ Ext w w'
theorem Y8n {w:World} {g:Nat} {T:TypeId} {cs:Array Value} (h:Blk w g T cs) {p:Addr} (hne:g ≠ p.block) (u:Value):Blk (w.setCell p u) g T cs:=by
 unfold Blk at *; rw [Below.heap_setCell _ _ _ _ hne]; exact h
theorem Y9a (w:World) (v:Value) (p:List Rul) (hv:Q1q w v p) (hl:p.length <= 1000) (h8:∀ k,k < p.length -> (Q0l p k).length <= 4096) :
    Calls Tryz.prog 44 #[v] w fun e w'=>Y0b w w' p p.length e:=by
 obtain ⟨i0,hi,hz0,hz1,hz2⟩:=info_parts Tryz.Y8x;obtain ⟨a,rfl,hr⟩:=hv;obtain ⟨c,⟨A,cap,rfl,-,-,hc⟩,h2⟩:=hr;have HOR:Hid (∀ w',Ext w w' -> ∀ j v,((Y1i p c).flatMap Q4g)[j]? = some v -> ∃ b off,A = some ⟨b,off,none⟩ /\ w'.cell? ⟨b,off + j,none⟩ = some v):=Lib.hid (fun w' hx j v hj=>by
  obtain ⟨b,off,h1,h3⟩:=Y1n hc rfl h2 j v hj;exact ⟨b,off,h1,hx.cell h3⟩)
 have HVI:Hid (∀ k,k < p.length -> Q0b w (c (k * 2)) (Q0l p k)):=Lib.hid (fun k hk=>by
  obtain ⟨h3,_⟩:=h2 k hk;unfold Q0l;rw [Q0r _ hk];exact h3)
 have hq0:=Y5w p c;have hql:=X3d p c;have HGET:=Lib.hid (fun k (hk:k < (Y1i p c).length)=>X8i p c hk);have hone:∀ u ∈ (Y1i p c).flatMap Q4g,u.oneCell' = true:=by
  intro u hu;obtain ⟨q,hq,hu⟩:=List.mem_flatMap.1 hu;obtain ⟨k,hk,rfl⟩:=List.getElem_of_mem hq;rw [X8i] at hu;have hi:=HVI.out k (by rw [hql] at hk; exact hk)
  obtain ⟨A',cap',he,_⟩:=hi.opened;simp only [Q4g,List.mem_cons,List.not_mem_nil,or_false] at hu
  rcases hu with rfl | rfl
  . rw [he]; rfl
  . rfl
 obtain ⟨q0,hq⟩:∃ x,Y1i p c = x:=⟨_,rfl⟩;rw [hq] at HOR HGET hq0 hql hone;obtain ⟨n,hn⟩:∃ n,p.length = n:=⟨_,rfl⟩;have HN:=Lib.hid hn;rw [hn] at hl hql HVI ⊢;have H8:=Lib.hid h8;have HONE:=Lib.hid hone;have HQ0:=Lib.hid hq0;have hfl:=Q3h Q3g q0;rw [hql] at hfl;have HFL:=Lib.hid hfl;have HQL:=Lib.hid hql;clear hc h2 hq hn hq0 hone h8 hfl hql;go_enter Tryz.func44,Tryz.ntmps44;go_wp2_with (refine Q5d (o:=⟨some 9,_,_,_,_,_⟩) rfl ?_; refine X0r (.tmp 8) _ _ rfl i0 _ 2 32 Tryz.underlying62 hi hz0 hz1 hz2 n rfl (by omega) (by decide) ?_; refine halted ?_)
 unfold Q5f;obtain ⟨W,hWW,k0,k1,k2,HXW,eW⟩:=X3m w 64 #[.slice A n cap] 64 #[.slice none 0 0] 67 (madeCells #[.slice none 0 0,.bool false] (n * 2));rw [hWW];clear hWW;obtain ⟨gs,hgs⟩:∃ x,w.heap.size = x:=⟨_,rfl⟩;have HGS:=Lib.hid hgs;rw [hgs] at k0 k1 k2 eW ⊢;clear hgs;obtain ⟨g,hg⟩:∃ x,gs + 1 + 1 = x:=⟨_,rfl⟩;have HG:=Lib.hid hg;rw [hg] at k2 eW ⊢;have hgl:gs + 1 < g:=by omega
 have c0:=k0.cell 0;simp only [Go.Tw.gA,Go.Tw.gB] at c0;have K1:=Lib.hid k1;have K2:=Lib.hid k2;have HFS:Hid ((q0.flatMap Q4g).length = (madeCells #[Value.slice none 0 0,.bool false] (n * 2)).size):=Lib.hid (by rw [HFL.out]; simp [madeCells])
 clear k0 k1 k2 hg;go_wp2_with (refine X4q rfl (.tmp 10) (.tmp 12) _ _ rfl 67 Tryz.underlying62 (sz:=2) Tryz.Z1f (n:=n) (g:=g) rfl rfl K2.out (q0.flatMap Q4g) (by rw [HFL.out]) (HOR.out _ HXW.out) (by rw [HFS.out]; exact Nat.le_refl _) HONE.out ?_; intro w4 hb4 hl4 ho4; refine halted ?_)
 unfold Q5f;rw [X9w _ _ HFS.out] at hb4;have HK1:=Lib.hid (K1.out.below (hl4 g (Nat.le_refl _)) hgl);have HSZ:Hid (w.heap.size <= g):=Lib.hid (by have:=HG.out; have:=HGS.out; omega)
 have HX4:Hid (Ext w w4):=Lib.hid (Below.trans HXW.out (hl4 _ HSZ.out));have HB4:=Lib.hid hb4;clear hb4 hl4 ho4 c0 K2;go_wp2_with fail
 go_loopw [16] (fun i wr=>∃ (k:Nat) (qs:List (Value × Rul)),k <= n /\ i = .int .i64 k /\ qs.length = n /\ qs.map (·.2) = p /\ (∀ j,k <= j -> qs[j]? = q0[j]?) /\ Y4u wr qs k /\ Blk wr g 67 (qs.flatMap Q4g).toArray /\ Below g w4 wr) (fun i _=>n - (intOf i).toNat)
 case atStart=>exact ⟨0,q0,Nat.zero_le _,rfl,HQL.out,HQ0.out,fun _ _=>rfl,(fun j _ h=>absurd h (Nat.not_lt_zero _)),HB4.out,Below.refl _ _⟩
 case round =>
  obtain ⟨k,qs,hk,rfl,hql,hqs,hre,hru,hbo,hlow⟩:=hrel;have hxr:Ext w wr:=Below.trans HX4.out (hlow.mono HSZ.out);have HQN:=Lib.hid hql;have HQS:=Lib.hid hqs;have HRE:=Lib.hid hre;have HRU:=Lib.hid hru;have HBO:=Lib.hid hbo;have HLO:=Lib.hid hlow;have HXR:=Lib.hid hxr
  by_cases hlt:k < n
  . have hkI:(k:Int) < n:=by omega
    have hkq:k < qs.length:=by omega
    have hk0:k < q0.length:=by have:=HQL.out; omega
    have hqk:qs[k] = (c (k * 2),⟨Q0l p k,Q3d p k⟩):=by
     have h:=hre k (Nat.le_refl _);rw [List.getElem?_eq_getElem hkq,List.getElem?_eq_getElem hk0] at h;injection h with h;rw [h]; exact HGET.out k hk0
    have hi0:=HVI.out k hlt;have hl8:=H8.out k (by rw [HN.out]; exact hlt)
    have e0:wr.cell? ⟨g,k * 2,none⟩ = some (c (k * 2)):=by
     rw [hbo.cell,List.getElem?_toArray,show k * 2 = k * 2 + 0 from rfl,flat_get Q3g qs k 0 hkq (by omega),hqk]; rfl
    have e1:wr.cell? ⟨g,k * 2 + 1,none⟩ = some (.bool (Q3d p k)):=by
     rw [hbo.cell,List.getElem?_toArray,flat_get Q3g qs k 1 hkq (by omega),hqk]; rfl
    obtain ⟨cv,hcv⟩:∃ z,c (k * 2) = z:=⟨_,rfl⟩;rw [hcv] at hi0 e0 hqk;obtain ⟨X,capx,rfl,-,-,-⟩:=hi0.opened;obtain ⟨cs,hcs⟩:∃ z,Q0l p k = z:=⟨_,rfl⟩;obtain ⟨cb,hcb⟩:∃ z,Q3d p k = z:=⟨_,rfl⟩;rw [hcs] at e0 hi0 hqk hl8;rw [hcb] at e1 hqk;have hbx:=Ext.box wr (.cells #[.slice X cs.length capx,.bool cb] 67);have hbk:=Blk.made wr 67 #[.slice X cs.length capx,.bool cb];have d0:=hbk.cell 0;simp only [Go.Tw.gA,Go.Tw.gB] at d0;have HI:=Lib.hid (hi0.ext (hxr.trans hbx));have HBX:=Lib.hid hbx;have HQK:=Lib.hid hqk;have HKQ:=Lib.hid hkq;clear hql hqs hre hru hbo hlow hxr hk0 hqk hi0 hcv hcs hcb hbk;go_wp2_with fail;obtain ⟨wb,hwb⟩:∃ Z,wr.alloc (.cells #[.slice X cs.length capx,.bool cb] 67) = Z:=⟨_,rfl⟩;rw [hwb] at d0 HI HBX hbx ⊢;refine (clone_any _ _ cs HI.out).mono ?_;rintro e w5 ⟨u,rfl,hu,hx5⟩;obtain ⟨bu,cu,rfl,-⟩:=hu.shape;have HU:=Lib.hid hu;have HX5:=Lib.hid (HBX.out.trans hx5);have HB5:=Lib.hid (HBO.out.ext HX5.out);have e5:=HX5.out.cell e0;have f5:=HB5.out.frozen (k * 2);have hb7:=HB5.out.set (k * 2) (.slice bu cs.length cu);rw [Y8m qs HKQ.out,HQK.out] at hb7;have HB7:=Lib.hid hb7;have HR7:Hid (Y4u (w5.setCell ⟨g,k * 2,none⟩ (.slice bu cs.length cu)) (qs.set k (.slice bu cs.length cu,⟨cs,cb⟩)) (k + 1)):=Lib.hid (Y4u.set (fun j h hj=>Q3e ((HRU.out j h hj).below HX5.out) HB5.out (by decide)) (Q3e HU.out HB5.out (by decide)))
    have HBW:=Lib.hid ((HLO.out.trans (HX5.out.mono (by have:=HBO.out.lt; omega))).setCell (p:=⟨g,k * 2,none⟩) (Nat.le_refl g) (.slice bu cs.length cu))
    clear d0 e0 e1 hwb hbx hu hx5 hb7;go_wp2;go_roundw
    case rel=>exact ⟨k + 1,qs.set k (.slice bu cs.length cu,⟨cs,cb⟩),by omega,by go_num,by rw [List.length_set]; exact HQN.out,by rw [List.map_set,HQS.out]; exact Z0c HKQ.out HQS.out HQK.out,(fun j hj=>by rw [List.getElem?_set_ne (by omega)]; exact HRE.out j (by omega)),HR7.out,HB7.out,HBW.out⟩
    case measure=>simp [intOf]; omega
  . have hkI:¬ (k:Int) < n:=by omega
    obtain rfl:k = n:=by omega
    have hk1:=HK1.out.below hlow hgl;have c1:wr.cell? ⟨gs + 1,0,none⟩ = some (.slice none 0 0):=hk1.cell 0;have f1:=hk1.frozen 0;have HK1b:=Lib.hid hk1;clear hql hqs hre hru hbo hlow hxr hk1;go_wp2;refine bodyPost_ret (Q5y Tryz.results44 rfl (HK1b.out.set 0 _) Tryz.Y1v Tryz.X7i) rfl ?_;have hr:RuR wr qs:=fun q hq=>by
     obtain ⟨j,hj,rfl⟩:=List.getElem_of_mem hq;exact HRU.out j hj (by have:=HQN.out; omega)
    unfold Y0b;exact ⟨g,qs,rfl,Y8n HBO.out (p:=⟨gs + 1,0,none⟩) (show g ≠ gs + 1 by omega) _,HSZ.out,HQS.out,hr.set HK1b.out (by decide),HXR.out.X7h (p:=⟨gs + 1,0,none⟩) (by show w.heap.size <= gs + 1; have:=HGS.out; omega) _⟩
theorem Y9k (w:World) (v:Value) (p:List Rul) (hv:Q1q w v p) (hl:p.length <= 1000) (h8:∀ k,k < p.length -> (Q0l p k).length <= 4096) :
    Calls Tryz.prog 44 #[v] w fun e w'=>∃ x,e = .returned x /\ Q1q w' x p /\ Ext w w' :=
 (Y9a w v p hv hl h8).mono fun e w' ⟨g,qs,he,hb,hg,hq,hr,hx⟩=>by
  subst hq;rw [List.length_map] at he hl;have h:=X5z (Q1r.Z5a (base:=0) Q3g hb rfl (Nat.zero_le _) (by unfold maxLen; omega)) (by omega) hr (fun q hq=>by
   obtain ⟨j,hj,rfl⟩:=List.getElem_of_mem hq;have:=h8 j (by rw [List.length_map]; exact hj)
   unfold Q0l at this;rw [Q0r _ (by rw [List.length_map]; exact hj),List.getElem_map] at this
   exact this)
  exact ⟨_,he,⟨_,rfl,h⟩,hx⟩
end Go.Proofs
namespace Go.Proofs
open Go.RowKit Go.Tw Go.Flow
attribute [local go_sem] Oper.semAt_some
theorem Tryz.Z4z (w:World):(isAgg 69).run Tryz.prog w = .ok true w:=by kernel_rfl
theorem Tryz.Y3w (w:World):(sizeOf 69).run Tryz.prog w = .ok 2 w:=by kernel_rfl
theorem Y3n {a b:World} {g n c m d:Nat} {T:TypeId} {A B:Option Addr} {v:Value} {l:List Rul} (h:Q1n a v l) (hg:Blk a g T #[.slice A n c,.slice B m d]) (hk:∀ k,k < a.heap.size -> k ≠ g -> b.heap[k]? = a.heap[k]?):Q1n b v l:=by
 obtain ⟨f,⟨A',cap,hv,hn,hcap,hc⟩,h2⟩:=h;refine ⟨f,⟨A',cap,hv,hn,hcap,fun j hj=>?_⟩,fun j hj=>?_⟩
 . obtain ⟨b',off,hA,hcell⟩:=hc j hj
   obtain ⟨b2,off2,hA2,hcell2⟩:=hc (j / 2 * 2 + 1) (by omega)
   rw [hA] at hA2;injection hA2 with hA2;injection hA2 with e1 e2 _;subst e1;have e:=(h2 (j / 2) (by omega)).2
   simp only at e;exact ⟨b',off,hA,Y0u hcell (X8v hg hcell2 (by rw [e]; intro _ _ _ hh; cases hh)) hk⟩
 . obtain ⟨x,y⟩:=h2 j hj
   exact ⟨Q5s x hg hk,y⟩
def Z1e (s:Q0c) (p:List Rul):List Rul:=if Q2o s p = 0 then p else []
def Z1l (s:Q0c) (p:List Rul) (e:Ending) (w':World):Prop:=∃ x y,e = .returned (.tuple #[.agg #[x,y],.int .i64 (Q2o s p)]) /\ Q1n w' x (Z1e s p) /\ Q0b w' y (Y3m s p)
theorem X9m (w:World) (v u:Value) (s:Q0c) (p:List Rul) (hv:Q0o w v s) (hu:Q1q w u p) (hs:Q3z s) (hp:p.length <= 1000) (h8:∀ k,k < p.length -> (Q0l p k).length <= 4096) :
    Calls Tryz.prog 17 #[v,u] w fun e w'=>Z1l s p e w' /\ Ext w w':=by
 obtain ⟨a,b,rfl,h2⟩:=hv;obtain ⟨rv,rfl,hr⟩:=hu;obtain ⟨A,capa,rfl,-,-,-⟩:=h2.ships.opened;obtain ⟨B,capb,rfl,-,-,-⟩:=h2.members.opened;obtain ⟨R,capr,rfl,-,-,-⟩:=hr.opened;have H2:=Lib.hid h2;have HR:=Lib.hid hr;have HS:=Lib.hid hs;have HPL:=Lib.hid hp;have HP8:=Lib.hid h8;obtain ⟨E,hE⟩:∃ z,Q2o s p = z:=⟨_,rfl⟩;have HE:=Lib.hid hE;obtain ⟨N,hN⟩:∃ z,p.length = z:=⟨_,rfl⟩;have HN:=Lib.hid hN;rw [hN] at HR ⊢;clear h2 hr hs hE hN hp h8;go_enter Tryz.func17,Tryz.ntmps17;go_wp2_with fail;change Calls _ _ _ (((w.alloc (.cells #[.int .i64 s.limit,.slice A s.ships.length capa,.slice B s.members.length capb] 74)).alloc (.cells #[.slice R N capr] 64)).alloc (.cells #[.slice none 0 0,.slice none 0 0] 69)) _;obtain ⟨W,hWW,k0,k1,k2,HXW,eW⟩:=X3m w 74 #[.int .i64 s.limit,.slice A s.ships.length capa,.slice B s.members.length capb] 64 #[.slice R N capr] 69 #[.slice none 0 0,.slice none 0 0];rw [hWW];clear hWW;obtain ⟨gs,hgs⟩:∃ x,w.heap.size = x:=⟨_,rfl⟩;have HGS:=Lib.hid hgs;rw [hgs] at k0 k1 k2 eW ⊢;have K1:=Lib.hid k1;have K2:=Lib.hid k2;clear k0 k1 k2 hgs;have HPO:Hid (∀ W',Ext W W' -> Q1q W' (.agg #[.slice R N capr]) p):=Lib.hid (fun W' hW=>⟨_,rfl,HR.out.ext (HXW.out.trans hW)⟩);refine (Y7s _ _ _ s p ⟨_,_,rfl,H2.out.ext HXW.out⟩ (HPO.out _ (Ext.refl _)) HS.out HPL.out).mono ?_;rintro e w5 ⟨xk,rfl,hk,hx5⟩;rw [HE.out];obtain ⟨Xk,ck,rfl,-,-,-⟩:=hk.opened;obtain ⟨nk,hnk⟩:∃ z,(Y3m s p).length = z:=⟨_,rfl⟩;rw [hnk] at hk ⊢;have HKE:=Lib.hid hk;have HX5:=Lib.hid hx5;have HK2:=Lib.hid (K2.out.ext hx5);have HNK:=Lib.hid hnk
 by_cases h0:E = 0
 . have HCU:Hid (Z1e s p = p):=Lib.hid (if_pos (HE.out.trans h0))
   have HE0:=Lib.hid h0;have hne:(E != 0) = false:=by simp [h0]
   have d0:=(K1.out.ext hx5).cell 0;simp only [Go.Tw.gA,Go.Tw.gB] at d0;clear h0 hk hx5 hnk;go_wp2_with fail;refine (Y9k _ _ p (HPO.out _ HX5.out) HPL.out HP8.out).mono ?_;rintro e w6 ⟨xo,rfl,ho,hx6⟩;obtain ⟨ro,rfl,hro⟩:=ho;obtain ⟨Xo,co,rfl,-,-,-⟩:=hro.opened;rw [HN.out] at hro ⊢;have HRO:=Lib.hid hro;have HX6:=Lib.hid (HX5.out.trans hx6);have hp:=HK2.out.ext hx6;have HK6:=Lib.hid (HKE.out.ext hx6);clear hro hx6 d0;go_wp2_with (with_reducible (refine X2z ?_); refine Q2a rfl _ _ _ rfl Tryz.Y3w rfl rfl hp rfl rfl Q5l ?_; intro wz hb9 hl9 ho9);refine bodyPost_ret (Q3q Tryz.results17 rfl hb9 Tryz.Z4z Tryz.Y3w rfl) rfl ?_;exact ⟨⟨_,_,by rw [HE.out,HE0.out]; rfl,by rw [HCU.out]; exact Y3n HRO.out hp (fun k _ hk=>ho9 k hk),Q5s HK6.out hp (fun k _ hk=>ho9 k hk)⟩,Below.trans (HXW.out.trans HX6.out) (hl9 _ (by have:=HGS.out; omega))⟩
 . have HCU:Hid (Z1e s p = [] /\ Y3m s p = []):=Lib.hid ⟨if_neg (by rw [HE.out]; exact h0),if_neg (by rw [HE.out]; exact h0)⟩
   have hne:(E != 0) = true:=by simp [h0]
   have hp:=HK2.out;clear h0 hk hx5 hnk;go_wp2_with (with_reducible (refine X2z ?_); refine Q2a rfl _ _ _ rfl Tryz.Y3w rfl rfl hp rfl rfl Q5l ?_; intro w9 hb9 hl9 ho9);refine bodyPost_ret (Q3q Tryz.results17 rfl hb9 Tryz.Z4z Tryz.Y3w rfl) rfl ?_;exact ⟨⟨_,_,by rw [HE.out]; rfl,by rw [HCU.out.1]; exact Go.Tw.Rows.nil _ _ _,by rw [HCU.out.2]; exact Go.Tw.Rows.nil _ _ _⟩,Below.trans (HXW.out.trans HX5.out) (hl9 _ (by have:=HGS.out; omega))⟩
end Go.Proofs
namespace Go.Flow
open Go.RowKit Go.Tw
def Z5z (D:Nat):Deferred:={ target:=.collected D,args:=#[] }
def marks (l:List Nat):List Deferred:=l.map Z5z
structure Marked (W:World) (l:List Nat):Prop where
 nd:l.Nodup
 all:∀ D,D ∈ l -> W.heap[D]? = some (.deferred (some []))
theorem Marked.nil (W:World):Marked W []:=⟨List.nodup_nil,fun D h=>by cases h⟩
theorem Marked.lt {W:World} {l:List Nat} (h:Marked W l) {D:Nat} (hD:D ∈ l):D < W.heap.size:=(Array.getElem?_eq_some_iff.1 (h.all D hD)).1
theorem Marked.ext {W W':World} {l:List Nat} (h:Marked W l) (hx:Ext W W'):Marked W' l:=⟨h.nd,fun D hD=>by rw [Below.block hx _ (h.lt hD)]; exact h.all D hD⟩
theorem Marked.keeps {W W':World} {l:List Nat} (h:Marked W l) (hx:KeepsOthers W W'):Marked W' l:=⟨h.nd,fun D hD=>hx.same _ _ (h.all D hD) rfl⟩
theorem Marked.turns {B:Nat} {W W':World} {l:List Nat} (h:Marked W l) (hB:∀ D,D ∈ l -> D < B) (hx:Turns B W W'):Marked W' l:=⟨h.nd,fun D hD=>by rw [hx.same (hB D hD)]; exact h.all D hD⟩
theorem Marked.cons {W:World} {l:List Nat} {D:Nat} (h:Marked W l) (hD:W.heap[D]? = some (.deferred (some []))) (hn:∀ E,E ∈ l -> E < D):Marked W (D :: l):=by
 refine ⟨List.nodup_cons.2 ⟨fun hm=>Nat.lt_irrefl _ (hn D hm),h.nd⟩,fun E hE=>?_⟩
 rcases List.mem_cons.1 hE with rfl | hE
 . exact hD
 . exact h.all E hE
end Go.Flow
namespace Go.Proofs
open Go.RowKit Go.Tw Go.Flow
attribute [local go_sem] Oper.semAt_some
def Z6o (q:Value × Grp):List Value:=[q.1,.int .i64 q.2.weight]
def GrR (w:World) (gl:List (Value × Grp)):Prop:=∀ q ∈ gl,Q0g w 0 3 (.int .i64) q.1 q.2.members
theorem GrR.nil (w:World):GrR w []:=fun _ hq=>by simp at hq
theorem GrR.ext {w w':World} {gl:List (Value × Grp)} (h:GrR w gl) (hx:Ext w w'):GrR w' gl:=fun q hq=>(h q hq).below hx
theorem GrR.snoc {w:World} {gl:List (Value × Grp)} {q:Value × Grp} (h:GrR w gl) (hq:Q0g w 0 3 (.int .i64) q.1 q.2.members):GrR w (gl ++ [q]):=fun z hz=>by
 rcases List.mem_append.1 hz with hz | hz
 . exact h z hz
 . rw [List.mem_singleton.1 hz]; exact hq
def Z6j (s:Q0c) (i:Nat):List Int:=(Z5x s i).map Int.ofNat
def Z7o (s:Q0c) (i:Nat):Grp:=⟨Z6j s i,Z5j s (Z5x s i)⟩
def Z2e (s:Q0c) (k:Nat):List Grp:=(Z5o (Z7p s) k).map (Z7o s)
end Go.Proofs
namespace Go.Proofs
open Go.RowKit Go.Tw Go.Flow
attribute [local go_sem] Oper.semAt_some
theorem Y1h.bools {w:World} {x:Value} {o:Option (List Bool)} (h:Y1h w x o) (hl:∀ b,o = some b -> b.length <= 4096):Q2c w x (o.getD []):=by
 cases o with
 | none =>
   have h':x = .slice none 0 0:=h;subst h';exact Y4w w
 | some b =>
   have:=hl b rfl;exact Q0g.bools h (show b.length <= 17592186043904 by omega)
end Go.Proofs
namespace Go.Proofs
open Go.RowKit Go.Tw Go.Flow
attribute [local go_sem] Oper.semAt_some
def Z2q (w:World) (x:Value) (o:Option (List Bool)):Prop:=match o with
 | none=>x = .slice none 0 0
 | some b=>Q2c w x b
theorem Z2q.ext {w w':World} {x:Value} {o:Option (List Bool)} (h:Z2q w x o) (hx:Ext w w'):Z2q w' x o:=by
 cases o with
 | none=>exact h
 | some b=>exact Q2c.ext h hx
end Go.Proofs
namespace Go.Proofs
open Go.RowKit Go.Tw Go.Flow
attribute [local go_sem] Oper.semAt_some
theorem Q6e {w:World} {o:Oper} {a:Act} (x:Operand) (k:Nat) (hop:o.op = .extract x k) {u r:Value} (h:a.eval x = u) (hr:∀ w,(Instr.extract u k).run Tryz.prog w = .ok r w):(execOp a.eval o).run Tryz.prog w = .ok (.value r) w:=by
 unfold execOp;simp only [hop,h,Sem.run_bind,hr,Result.andThen_ok,Sem.run_pure]
theorem X3s {w:World} {o:Oper} {a:Act} (x:Operand) (hop:o.op = .move x) {u:Value} (h:a.eval x = u):(execOp a.eval o).run Tryz.prog w = .ok (.value u) w:=by
 unfold execOp;simp only [hop,h,Sem.run_pure]
theorem X4j {w:World} {o:Oper} {a:Act} (x:Operand) (hop:o.op = .assign x) {u:Value} (h:a.eval x = u):(execOp a.eval o).run Tryz.prog w = .ok (.value u) w:=by
 unfold execOp;simp only [hop,h,Sem.run_pure]
theorem Z6c (w:World) (x y:Value):(Instr.extract (.tuple #[x,y]) 0).run Tryz.prog w = .ok x w:=rfl
theorem Z4g (w:World) (x y:Value):(Instr.extract (.tuple #[x,y]) 1).run Tryz.prog w = .ok y w:=rfl
end Go.Proofs
namespace Go.Proofs
open Go.RowKit Go.Tw Go.Flow
theorem Z1t.rules {s:Q0c} {p:List Rul} {n:Nat} {w w':World} {x:Value} (hS:Q1d s) (hp:Q0x s.hist p = 0) (h:Z1t 66 w w' x (X8s p n)):Q1q w' x (X8s p n):=by
 have hf:=Q1o.1 (Y5u (n:=n) hp);refine h.is (by have:=Z3b hS hp; rw [Z0p]; omega) fun r hr=>?_
 have hm:r.classes ∈ s.hist:=by rw [<- hf]; exact List.mem_map_of_mem hr
 have:=Q6z hS _ hm;omega
end Go.Proofs
namespace Go.Proofs
open Go.RowKit Go.Tw Go.Flow
attribute [local go_sem] Oper.semAt_some
theorem GrR.grown {w w':World} {base n size:Nat} {e:TypeId} {cv:Value} {xs:List Value} {gl:List (Value × Grp)} (h:GrR w gl) (hown:w.ownsRow base e size cv n xs) (he:e ≠ 3) (hg:w.grownBy w' cv.ownBlock):GrR w' gl:=fun q hq=>Q2k (h q hq) hown he hg
structure Z7v (s:Q0c) (w0:World) (k:Nat) (vo vs:Value) (Ds:List Nat) (W:World):Prop where
 le:k <= s.members.length
 own:∃ gl:List (Value × Grp),Q1r W w0.heap.size 99 2 Z6o vo gl /\ gl.map (·.2) = Z2e s k /\ GrR W gl
 sum:vs = .int .i64 ((Z2e s k).map Grp.weight).sum
 marked:Marked W Ds
 low:∀ D,D ∈ Ds -> w0.heap.size <= D
 ext:Ext w0 W
end Go.Proofs
namespace Go.Proofs
open Go.RowKit Go.Tw Go.Flow
attribute [local go_sem] Oper.semAt_some
def Z3z (s:Q0c) (c:Bool) (k:Nat) (qs:List (Value × Rul)):Prop:=qs.map (fun q=>q.2.classes) = s.hist /\ ∀ j (h:j < qs.length),j < k -> qs[j].2.close = c
theorem Z3z.start {s:Q0c} {c:Bool} {qs:List (Value × Rul)} (h:qs.map (·.2) = Q2v s 0):Z3z s c 0 qs:=by
 refine ⟨?_,fun j _ h=>absurd h (Nat.not_lt_zero _)⟩;have h1:qs.map (fun q=>q.2.classes) = (qs.map (·.2)).map Rul.classes:=by rw [List.map_map]; rfl
 rw [h1,h];unfold Q2v;rw [List.map_map]
 apply List.ext_getElem
 . simp
 . intro i h1 h2
   simp [h2]
theorem Z3z.step {s:Q0c} {c:Bool} {k:Nat} {qs:List (Value × Rul)} (h:Z3z s c k qs) (hk:k < qs.length):Z3z s c (k + 1) (qs.set k (qs[k].1,⟨qs[k].2.classes,c⟩)):=by
 obtain ⟨h1,h2⟩:=h;refine ⟨?_,fun j hj hjk=>?_⟩
 . rw [<- h1,List.map_set]
   apply List.ext_getElem
   . simp
   . intro i g1 g2
     rw [List.getElem_set]
     split
     . rename_i e; subst e; simp
     . rfl
 . rw [List.getElem_set]
   split
   . rfl
   . exact h2 j (by simpa using hj) (by omega)
theorem Z3z.all {s:Q0c} {c:Bool} {qs:List (Value × Rul)} (h:Z3z s c qs.length qs):qs.map (·.2) = always s c:=by
 obtain ⟨h1,h2⟩:=h;unfold always;rw [<- h1,List.map_map];refine List.map_congr_left fun q hq=>?_;obtain ⟨j,hj,rfl⟩:=List.getElem_of_mem hq;have:=h2 j hj hj;show qs[j].2 = ⟨qs[j].2.classes,c⟩;rw [<- this]
theorem RuR.put {w:World} {qs:List (Value × Rul)} {k:Nat} {c:Bool} (h:RuR w qs) (hk:k < qs.length):RuR w (qs.set k (qs[k].1,⟨qs[k].2.classes,c⟩)):=by
 intro q hq
 rcases List.mem_or_eq_of_mem_set hq with hq | rfl
 . exact h q hq
 . exact (show Q0g w 0 3 (.int .i64) qs[k].1 qs[k].2.classes from h _ (List.getElem_mem hk))
end Go.Proofs
namespace Go.Proofs
open Go.RowKit Go.Tw Go.Flow
attribute [local go_sem] Oper.semAt_some
theorem Z1t.policy {s:Q0c} (hS:Q1d s) {n:Nat} {w w':World} {x:Value} (h:Z1t 66 w w' x (Q2v s n)):Q1q w' x (Q2v s n):=by
 refine h.is (by have:=Q7l hS; rw [X4b]; omega) fun r hr=>?_
 unfold Q2v at hr;obtain ⟨i,hi,rfl⟩:=List.mem_map.1 hr;have hi':=List.mem_range.1 hi;have:=Q6z hS _ (List.getElem_mem hi');show (s.hist.getD i []).length <= 4096;rw [Q0r _ hi']; omega
theorem X4x (s:Q0c) (n:Nat):Q0x s.hist (Q2v s n) = 0:=by
 rw [Q1o];unfold Q2v;rw [List.map_map]
 apply List.ext_getElem
 . simp
 . intro i h1 h2
   simp [h2]
end Go.Proofs
namespace Go.Proofs
open Go.RowKit Go.Tw Go.Flow
attribute [local go_sem] Oper.semAt_some
structure Z7t (s:Q0c) (need:Int) (F b c d:Int) (x:Option Plan):Prop where
 f:Z6u s need = F
 x:Z6t s need = x
end Go.Proofs
namespace Go.Proofs
open Go.Tw Go.RowKit
theorem _root_.Go.RowKit.Below.ext {a b c:World} (h:Below a.heap.size a b) (k:Ext b c):Below a.heap.size a c:=(show Ext a b from h).trans k
structure Z7k (s:Q0c) (need m n1 d1 n2 d2 e3:Int):Prop where
 two:(e3 = 24 /\ ¬ need <= m) ∨ (e3 = 0 /\ need <= m /\ (n2 < n1 ∨ n2 = n1 /\ d2 <= d1))
 best:∀ p,need <= Y9d s (Q2h s p) -> e3 = 0 /\ (n2 < Y0l s p ∨ n2 = Y0l s p /\ d2 <= Z4o s p)
theorem Y3z {s:Q0c} {p:List Rul} (he:s.err = 0) (hp:Q0x s.hist p = 0):Q2o s p = 0:=by unfold Q2o; rw [if_neg (fun h=>h he)]; exact hp
theorem Y4g {s:Q0c} (hv:Q1d s) {p:List Rul} (hp:Q0x s.hist p = 0):p.length <= 1000:=by
 have h:=congrArg List.length (Q1o.1 hp);rw [List.length_map] at h;have:=Q7l hv;omega
theorem Y3p {s:Q0c} (hv:Q1d s) {p:List Rul} (hp:Q0x s.hist p = 0):∀ k,k < p.length -> (Q0l p k).length <= 8:=fun k hk=>by
 have h:=Q1o.1 hp;have hm:p[k].classes ∈ s.hist:=by rw [<- h]; exact List.mem_map_of_mem (List.getElem_mem hk)
 have:=Q6z hv _ hm;unfold Q0l;rw [Q0r _ hk];omega
theorem Y5m {s:Q0c} (hv:Q1d s) (n:Nat):∀ k,k < (Q2v s n).length -> (Q0l (Q2v s n) k).length <= 4096:=fun k hk=>by
 have:=Y3p hv (X4x s n) k hk;omega
end Go.Proofs
namespace Go.Proofs
open Go.RowKit Go.Tw Go.Flow
theorem GrR.put {w:World} {qs:List (Value × Grp)} {x:Int} (h:GrR w qs) (h0:0 < qs.length):GrR w (qs.set 0 (qs[0].1,⟨qs[0].2.members,x⟩)):=by
 intro q hq
 rcases List.mem_or_eq_of_mem_set hq with hq | rfl
 . exact h q hq
 . exact (show Q0g w 0 3 (.int .i64) qs[0].1 qs[0].2.members from h _ (List.getElem_mem h0))
theorem Z0k {s:Q0c} (he:s.err = 0) {p:List Rul} (hp:Q0x s.hist p = 0):Q2o s p = 0 /\ Z1e s p = p /\ Y3m s p = Q2h s p:=⟨Y3z he hp,if_pos (Y3z he hp),if_pos (Y3z he hp)⟩
theorem Y1z (w:World) (v u:Value) (s:Q0c) (p:List Rul) (hv:Q0o w v s) (hu:Q1q w u p) (hs:Q3z s) (he:s.err = 0) (hp:Q0x s.hist p = 0) :
    Calls Tryz.prog 17 #[v,u] w fun e w'=>∃ x y,e = .returned (.tuple #[.agg #[x,y],.int .i64 0]) /\ Q1n w' x p /\ Q0b w' y (Q2h s p) /\ Ext w w':=by
 have hv0:=Q1d.of he;obtain ⟨h1,h2,h3⟩:=Z0k he hp;refine (X9m w v u s p hv hu hs (Y4g hv0 hp) (fun k hk=>by have:=Y3p hv0 hp k hk; omega)).mono ?_
 rintro e w' ⟨⟨x,y,rfl,hx,hy⟩,hxx⟩;rw [h2] at hx;rw [h3] at hy;rw [h1];exact ⟨x,y,rfl,hx,hy,hxx⟩
end Go.Proofs
namespace Go.Tw
def Y9g (k:Nat):Code -> Bool
 | .region n _ _=>Nat.beq n k
 | .seq a _=>Y9g k a
 | _=>false
def Z2d (k:Nat):Code -> Option Code
 | .seq a b=>if Y9g k a = true then some (.seq a b) else Z2d k b
 | _=>none
noncomputable def codeFrom (fn:Func) (k:Nat):Code:=((fn.body.bind (Z2d k)).getD .skip)
end Go.Tw
namespace Go.Tw
def X1v (k:Nat):Code -> Option Code
 | .seq a b=>if Y9g k a = true then some (.seq a b) else match X1v k a with
   | some c=>some c
   | none=>X1v k b
 | .region n o d=>if Nat.beq n k = true then some (.region n o d) else none
 | .cond _ a b=>match X1v k a with
   | some c=>some c
   | none=>X1v k b
 | .block _ a=>X1v k a
 | .loop a=>X1v k a
 | .scope a=>X1v k a
 | _=>none
noncomputable def Z4m (fn:Func) (k:Nat):Code:=((fn.body.bind (X1v k)).getD .skip)
end Go.Tw
namespace Go.Proofs
open Go.RowKit Go.Tw Go.Flow Go.Ba
attribute [local go_sem] Oper.semAt_some
def OwnB (w:World) (v:Value) (l:List Bool):Prop:=Q0g w 0 4 .bool v l
theorem OwnB.ext {w w':World} {v:Value} {l:List Bool} (h:OwnB w v l) (hx:Ext w w'):OwnB w' v l:=Q0g.below h hx
theorem OwnB.of {w:World} {v:Value} {l:List Bool} (h:Q0g w 0 4 .bool v l):OwnB w v l:=h
theorem Y6p {w:World} {qs:List (Value × Rul)} (h:∀ q ∈ qs,Q0b w q.1 q.2.classes):∀ u ∈ qs.flatMap Q4g,u.oneCell' = true:=by
 intro u hu;obtain ⟨q,hq,hu⟩:=List.mem_flatMap.1 hu;obtain ⟨X,c,e,-⟩:=(h q hq).opened;simp only [Q4g,List.mem_cons,List.not_mem_nil,or_false] at hu
 rcases hu with rfl | rfl
 . rw [e]; rfl
 . rfl
theorem X6i {w:World} {B n:Nat} {v:Value} {qs:List (Value × Rul)} {l:List Rul} (h:Q1r w B 67 2 Q4g v qs) (hn:qs.length = n) (hl:qs.map (·.2) = l) (h4:n <= 4096) (hr:∀ q ∈ qs,Q0b w q.1 q.2.classes):∃ X c,v = .slice X n c /\ Q1n w (.slice X n c) l:=by
 obtain ⟨X,c,e,-⟩:=h.shape;rw [hn] at e;subst e;have:=X6u h (by omega) hr (Ext.refl _)
 rw [hl] at this;exact ⟨X,c,rfl,this⟩
theorem X5f (w:World) (a:Option Addr) (n c:Nat):(Instr.build 64 #[(0,.slice a n c)]).run Tryz.prog w = .ok (.agg #[.slice a n c]) w:=by kernel_rfl
theorem Y3b {w:World} {o:Oper} {a:Act} {T:TypeId} (x:Operand) (hop:o.op = .build T #[(0,x)]) {u1 r:Value} (h1:a.eval x = u1) (hr:∀ w,(Instr.build T #[(0,u1)]).run Tryz.prog w = .ok r w):(execOp a.eval o).run Tryz.prog w = .ok (.value r) w:=by
 unfold execOp;simp only [hop,List.map_toArray,List.map_cons,List.map_nil,Sem.run_bind,Sem.run_pure,h1,hr,Result.andThen_ok]
theorem Z1r (w:World) (v u:Value) (s:Q0c) (p:List Rul) (k:Nat) (cl:List Bool) (hv:Q0o w v s) (hu:Q1q w u p) (hs:Q3z s) (hV:Q1d s) (he:s.err = 0) (hp:Q0x s.hist p = 0) (hk:k < s.members.length) (hcl:Q0u p (Q0f s.members k) = cl) :
    Calls Tryz.prog 19 #[v,u,.int .i64 (k:Int)] w fun e w'=>∃ x y,e = .returned (.tuple #[.agg #[x,y],.int .i64 0]) /\ Q0g w' 0 4 .bool x cl /\ Q0b w' y ((Q1z s k).Q2y cl) /\ Ext w w':=by
 have h:=Y5k w v u s p (k:Int) hv hu hs (Y4g hV hp);have hm:Q9k s p (k:Int) = 0:=by
  unfold Q9k;rw [Q0i,if_pos (Y3z he hp),Q0i];have:Q0t (X2o s (k:Int)) 10 = 0:=by
   unfold Q0t X2o;rw [if_neg];simp; omega
  rw [if_pos this]; rfl
 refine h.mono ?_;rintro e w' ⟨⟨x,y,rfl,h1,h2⟩,hx⟩;unfold Y9q at h1;unfold Z0a at h2;rw [if_pos hm,Int.toNat_natCast,hcl] at h1 h2;rw [hm];exact ⟨x,y,rfl,h1,h2,hx⟩
def Z6f (s:Q0c) (i:Nat) (cl:List Bool) (W w':World) (u:Value):Prop:=∃ g X c Y d,u = .pointer (some ⟨g,0,none⟩) /\ Blk w' g 80 #[.slice X cl.length c,.slice Y ((Q1z s i).Q2y cl).length d] /\ Q0g w' 0 4 .bool (.slice X cl.length c) cl /\ Q0b w' (.slice Y ((Q1z s i).Q2y cl).length d) ((Q1z s i).Q2y cl) /\ Ext W w'
theorem Tryz.Z1v (w:World):(isAgg 77).run Tryz.prog w = .ok true w:=by kernel_rfl
theorem OwnB.bools {w:World} {v:Value} {l:List Bool} (h:OwnB w v l) (hl:l.length <= 1000):Q2c w v l:=Q0g.bools h (by omega)
theorem Y3s {s:Q0c} (hv:Q1d s) {i:Nat} (hi:i < s.members.length) {n:Nat} (hn:n <= s.ships.length):X9z (Q1z s i) n:=by
 obtain ⟨-,l2,l3⟩:=hv.shaped i hi;refine ⟨fun k hk=>?_,fun k hk=>?_,by have:=hv.tides; omega⟩
 . have hlt:k < (Q0v s.members i).length:=by omega
   have:=hv.inflow i hi _ (List.getElem_mem hlt);show 0 <= ix (Q0v s.members i) k /\ ix (Q0v s.members i) k <= 1024;rw [Q6r hlt]; exact this
 . have hlt:k < (Q0n s.members i).length:=by omega
   have:=hv.outside i hi _ (List.getElem_mem hlt);show 0 <= ix (Q0n s.members i) k /\ ix (Q0n s.members i) k <= 1024;rw [Q6r hlt]; exact this
def Q3u (s:Q0c) (i:Nat) (cl:List Bool):List Cond:=Q0z (Q1z s i).outside (Q1z s i).inflow cl cl.length
theorem X0d (s:Q0c) (i:Nat) (cl:List Bool):(Q3u s i cl).length = 2 * cl.length:=Q2l _ _ _ _
theorem Y3t:Bnd [0] 100000000:=fun k=>by
 cases k with
 | zero=>exact ⟨by decide,by decide⟩
 | succ k=>rw [Y6r (V:=[0]) (by simp)]; exact ⟨by decide,by decide⟩
theorem Y4v (w:World) (u vv vc:Value) (s:Q0c) (i:Nat) (cl:List Bool) (hu:Q1s w u (Q3k s.limit)) (hV:Q0b w vv [0]) (hc:Q1v w vc (Q3u s i cl)) (hv:Q1d s) (hi:i < s.members.length) (hl:cl.length = s.ships.length) :
    Calls Tryz.prog 21 #[u,vv,vc] w fun e w'=>∃ r,e = .returned (.tuple #[r,.int .i64 0]) /\ Q3j w' r (Q9h (Q3k s.limit) [0] (Q3u s i cl) (2 * cl.length)) /\ Ext w w':=by
 have hm:=Y3s hv hi (n:=cl.length) (by omega)
 refine (X2d w u vv vc (Q3k s.limit) [0] (Q3u s i cl) hu hV hc (X3x hv.limit) rfl Y3t (X1l hm) (by rw [X0d]; have:=hm.n; omega)).mono ?_
 rintro e w' ⟨r,er,ll,rfl,h1,h2,hx⟩
 rcases h2 with ⟨rfl,rfl,-⟩ | ⟨-,-,j,hj,hf⟩
 . rw [X0d] at h1; exact ⟨r,rfl,h1,hx⟩
 . have:=X3i (lim:=s.limit) hm j hj
   unfold Q3u at hf;rw [this] at hf; cases hf
theorem Y6t {s:Q0c} (hv:Q1d s) {p:List Rul} {i:Nat} (hi:i < s.members.length) {cl:List Bool} (hc:Q0u p (Q0f s.members i) = cl) (hl:cl.length = s.ships.length):(∀ k,k < (Q3u s i cl).length -> X2q (Q3k s.limit) [0] (Q3u s i cl) k = []) ↔ has (Q2h s p) i = true:=by
 have hm:=Y3s hv hi (n:=cl.length) (by omega)
 have h1:=Z1h (lim:=s.limit) hv.limit.1 hm;have h2:=Z0d (s:=s) (p:=p) hi;rw [hc] at h2;unfold Q3u;rw [h1,<- h2];unfold Z7e;have e:(!((Q1z s i).Q2y cl).any fun x=>decide (s.limit < x)) = true ↔ ∀ x ∈ (Q1z s i).Q2y cl,x <= s.limit:=by
  simp
 rw [e]
 constructor
 . intro h x hx
   obtain ⟨k,hk,rfl⟩:=List.getElem_of_mem hx;rw [Q5n] at hk;have:=h k hk;rw [<- X7w hk,Q6r (by rw [Q5n]; exact hk)] at this
   exact this
 . intro h k hk
   have hk2:k < ((Q1z s i).Q2y cl).length:=by rw [Q5n]; exact hk
   have:=h _ (List.getElem_mem hk2);rw [<- X7w hk,Q6r hk2]; exact this
theorem X9a (w:World) (u vv vc:Value) (s:Q0c) (p:List Rul) (i:Nat) (cl:List Bool) (hu:Q1s w u (Q3k s.limit)) (hV:Q0b w vv [0]) (hc:Q1v w vc (Q3u s i cl)) (hv:Q1d s) (hi:i < s.members.length) (hcl:Q0u p (Q0f s.members i) = cl) (hl:cl.length = s.ships.length) :
    Calls Tryz.prog 12 #[u,vv,vc] w fun e w'=>∃ a b,e = .returned (.tuple #[.int .i64 a,.int .i64 b,.int .i64 (if has (Q2h s p) i = true then 7 else 0)]) /\ Ext w w':=by
 have hm:=Y3s hv hi (n:=cl.length) (by omega)
 have hk:=Y6t hv (p:=p) hi hcl hl;refine (X5x w u vv vc (Q3k s.limit) [0] (Q3u s i cl) hu hV hc (X3x hv.limit) rfl Y3t (X1l hm) (by rw [X0d]; have:=hm.n; omega)).mono ?_
 rintro e w' ⟨a,b,er,rfl,h2,hx⟩;refine ⟨a,b,?_,hx⟩
 rcases h2 with ⟨-,j,hj,hf⟩ | ⟨-,⟨rfl,k,hk1,hk2⟩ | ⟨rfl,h⟩⟩
 . have:=X3i (lim:=s.limit) hm j hj
   unfold Q3u at hf;rw [this] at hf; cases hf
 . rw [if_neg (fun h=>hk2 (hk.2 h k hk1))]
 . rw [if_pos (hk.1 h)]
theorem Y9l {s:Q0c} (hv:Q1d s) {i:Nat} (hi:i < s.members.length) {cl:List Bool} (hl:cl.length = s.ships.length) {k:Nat} (hk:k < cl.length):(Q9h (Q3k s.limit) [0] (Q3u s i cl) (2 * cl.length)).getD (2 * k) [] = [ix ((Q1z s i).Q2y cl) k]:=by
 have hm:=Y3s hv hi (n:=cl.length) (by omega)
 have h:=(Q7k (lim:=s.limit) hm hk).1;unfold Q9h;rw [X7w hk];have:2 * k < 2 * cl.length:=by omega
 simp only [List.getD_eq_getElem?_getD,List.getElem?_map,List.getElem?_range this,Option.map_some,Option.getD_some];exact h
end Go.Proofs
namespace Go.Proofs
open Go.RowKit Go.Tw Go.Flow Go.Ba
attribute [local go_sem] Oper.semAt_some
theorem Z1u {z0:World} {s:Q0c} {p:List Rul} {A B Xf Xk:Option Addr} {T M capa capb gs gq gc i NR cf nk ckk:Nat} {lim:Int} {cv:Value} {Q:Exit -> Act -> World -> Prop} {a0 a1 a3 a4 a5 a7 a8 a10 a11 a12 a13 a14 a15 a16 a17 a18 a19 a20 a21 a22 a23 a24 a25 a26 a27 a28 a29 a30 a31 a32 a33 a34 a35 a36 a37 a38 a39 a40 a41 a42 a43 a44 a45 a46 a47 a48 a49 a50 a51 a52 a53 a54 a55 a56 a57 a58 a59 a60 a61 a62 a63 a64 a65 a66 a67 a68 a69 a70 a71 a72 a73 a74 a75 a76 a77 a79 a81 a82 a83 a84 a85 a86 a87 a88 a89 a90 a91 a92 a93 a94 a95 a96 a97 a98 a99 a100 a101 a102 a103 a104 a105 a106 a107 a108 a109 a110 a111 a112 a113 a114 a115 a116 a117 a118 a119 a120 a121 a122 a123 a124 a125 a126 a127 a128 a129 a130 a131 a132 a133 a134 a135 a136 a137 a138 a139 a140 a141 a142 a143 a144 a145 a146 a147 a148 a149 a150 a151 a152 a153 a154 a155 a156 a157 a158 a159 a160 a161 a162 a163 a164 a165 a166 a167 a168 a169 a170 a171 a172 a173 a174 a175 a176 a177 a178 a179 a180 a181 a182 a183 a184 a185 a186 a187 a188 a189 a190 a191 a192 a193 a194 a195 a196 a197 a198 a199:Value} (H2:Hid (Q3s z0 (.slice A T capa) (.slice B M capb) s)) (KB:Hid (Blk z0 gs 55 #[.int .i64 lim,.slice A T capa,.slice B M capb])) (KF:Hid (Blk z0 gq 64 #[.slice Xf NR cf])) (FF:Hid (Q1n z0 (.slice Xf NR cf) p)) (KC:Hid (Blk z0 gc 69 #[cv,.slice Xk nk ckk])) (GK:Hid (Q0b z0 (.slice Xk nk ckk) (Q2h s p))) (HSEA:Hid (∀ W,Q3s W (.slice A T capa) (.slice B M capb) s -> Q0o W (.agg #[.int .i64 lim,.slice A T capa,.slice B M capb]) s)) (HS:Hid (Q3z s)) (HV:Hid (Q1d s)) (HE:Hid (s.err = 0)) (HT:Hid (s.ships.length = T)) (HM:Hid (s.members.length = M)) (HLIM:Hid (s.limit = lim)) (HI:Hid (i < M)) (HRE:Hid (Q0x s.hist p = 0)) (HRN:Hid (p.length = NR /\ NR <= 4096))
    (HQ:Hid (∀ (b4 b11 b12 b13 b14 b15 b16 b17 b18 b19 b20 b21 b22 b82 b83 b84 b85 b86 b87 b88 b89 b90 b91 b92 b93 b94 b95 b96 b97 b98 b99 b100 b101 b102 b103 b104 b105 b106 b107 b108 b109 b110 b111 b112 b113 b114 b115 b116 b117 b118 b119 b120 b121 b122 b123 b124 b125 b126 b127 b128 b129 b130 b131 b132 b133 b134 b135 b136 b137 b138 b139 b140 b141 b142 b143 b144 b145 b146 b147 b148 b149 b150 b151 b152 b153 b154 b155 b156 b157 b158 b159 b160 b161 b162 b163 b164 b165 b166 b167 b168 b169 b170 b171 b172 b173 b174 b175 b176 b177 b178 b179 b180 b181 b182 b183 b184 b185 b186 b187 b188 b189 b190 b191 b192 b193 b194 b195 b196 b197:Value) (w':World),Ext z0 w' -> Q .normal ⟨#[a0,a1,.pointer (some ⟨gs,0,none⟩),a3,b4,a5,.pointer (some ⟨gq,0,none⟩),a7,a8,.pointer (some ⟨gc,0,none⟩),a10,b11,b12,b13,b14,b15,b16,b17,b18,b19,b20,b21,b22,a23,a24,a25,a26,a27,a28,a29,a30,a31,a32,a33,a34,a35,a36,a37,a38,a39,a40,a41,a42,a43,a44,a45,a46,a47,a48,a49,a50,a51,a52,a53,a54,a55,a56,a57,a58,a59,a60,a61,a62,a63,a64,a65,a66,a67,a68,a69,a70,a71,a72,a73,a74,a75,a76,a77,.slice B M capb,a79,.int .i64 (i:Int),a81,b82,b83,b84,b85,b86,b87,b88,b89,b90,b91,b92,b93,b94,b95,b96,b97,b98,b99,b100,b101,b102,b103,b104,b105,b106,b107,b108,b109,b110,b111,b112,b113,b114,b115,b116,b117,b118,b119,b120,b121,b122,b123,b124,b125,b126,b127,b128,b129,b130,b131,b132,b133,b134,b135,b136,b137,b138,b139,b140,b141,b142,b143,b144,b145,b146,b147,b148,b149,b150,b151,b152,b153,b154,b155,b156,b157,b158,b159,b160,b161,b162,b163,b164,b165,b166,b167,b168,b169,b170,b171,b172,b173,b174,b175,b176,b177,b178,b179,b180,b181,b182,b183,b184,b185,b186,b187,b188,b189,b190,b191,b192,b193,b194,b195,b196,b197,a198,a199],[]⟩ w')) :
    (Z4m Tryz.f4 15).wp Tryz.prog Q ⟨#[a0,a1,.pointer (some ⟨gs,0,none⟩),a3,a4,a5,.pointer (some ⟨gq,0,none⟩),a7,a8,.pointer (some ⟨gc,0,none⟩),a10,a11,a12,a13,a14,a15,a16,a17,a18,a19,a20,a21,a22,a23,a24,a25,a26,a27,a28,a29,a30,a31,a32,a33,a34,a35,a36,a37,a38,a39,a40,a41,a42,a43,a44,a45,a46,a47,a48,a49,a50,a51,a52,a53,a54,a55,a56,a57,a58,a59,a60,a61,a62,a63,a64,a65,a66,a67,a68,a69,a70,a71,a72,a73,a74,a75,a76,a77,.slice B M capb,a79,.int .i64 (i:Int),a81,a82,a83,a84,a85,a86,a87,a88,a89,a90,a91,a92,a93,a94,a95,a96,a97,a98,a99,a100,a101,a102,a103,a104,a105,a106,a107,a108,a109,a110,a111,a112,a113,a114,a115,a116,a117,a118,a119,a120,a121,a122,a123,a124,a125,a126,a127,a128,a129,a130,a131,a132,a133,a134,a135,a136,a137,a138,a139,a140,a141,a142,a143,a144,a145,a146,a147,a148,a149,a150,a151,a152,a153,a154,a155,a156,a157,a158,a159,a160,a161,a162,a163,a164,a165,a166,a167,a168,a169,a170,a171,a172,a173,a174,a175,a176,a177,a178,a179,a180,a181,a182,a183,a184,a185,a186,a187,a188,a189,a190,a191,a192,a193,a194,a195,a196,a197,a198,a199],[]⟩ z0:=by
 conv=>arg 2; whnf
 have HXA:=Lib.hid (Ext.refl z0);have HT6:Hid (0 < T /\ T <= 6):=Lib.hid (by rw [<- HT.out]; exact HV.out.tides)
 have hI:=HI.out;have HIM:Hid (i < s.members.length):=Lib.hid (by rw [HM.out]; exact hI)
 have hiI:(i:Int) < (M:Int):=by omega
 obtain ⟨cl,hcl⟩:∃ z,Q0u p (Q0f s.members i) = z:=⟨_,rfl⟩;have Hcl:=Lib.hid hcl;have HCLL:Hid (cl.length = T):=Lib.hid (by rw [<- hcl,<- HT.out,<- (HV.out.shaped i HIM.out).1]; exact Q4f _ _)
 clear hcl;obtain ⟨B2,cb2,hB2,-,-,hcm⟩:=H2.out.members.opened;rw [HM.out] at hB2 hcm;injection hB2 with k1 k2 k3;subst k1;clear k2 k3;obtain ⟨bm,off,x,y,zz,hBB,-,e0,e1,e2,e3,e4,hmx,hmy,hmz,-⟩:=hcm i hI;subst hBB;obtain ⟨X1,c1,rfl,-,-,-⟩:=hmx.opened;obtain ⟨Y1,c2,rfl,-,-,-⟩:=hmy.opened;obtain ⟨Z1,c3,rfl,-,-,-⟩:=hmz.opened;obtain ⟨l1,l2,l3⟩:=HV.out.shaped i HIM.out;rw [l1,HT.out] at e2;rw [l2,HT.out] at e3 hmy;rw [l3,HT.out] at e4 hmz;obtain ⟨nm,hnm⟩:∃ z,Q1g s.members i = z:=⟨_,rfl⟩;rw [hnm] at e0;obtain ⟨wt,hwt⟩:∃ z,Q1c s.members i = z:=⟨_,rfl⟩;rw [hwt] at e1;have HOX:=Lib.hid hmy;have HIX:=Lib.hid hmz;clear hnm hwt l1 l2 l3 hcm hmx hmy hmz hI;have hxp:=Ext.box z0 (.cells #[.string nm,.int .i64 wt,.slice X1 T c1,.slice Y1 T c2,.slice Z1 T c3] 77);have hbp:=Blk.made z0 77 #[.string nm,.int .i64 wt,.slice X1 T c1,.slice Y1 T c2,.slice Z1 T c3];replace HXA:=Lib.hid (HXA.out.trans hxp);replace H2:=Lib.hid (H2.out.ext hxp);replace KB:=Lib.hid (KB.out.ext hxp);replace KF:=Lib.hid (KF.out.ext hxp);replace FF:=Lib.hid (FF.out.ext hxp);replace KC:=Lib.hid (KC.out.ext hxp);replace GK:=Lib.hid (GK.out.ext hxp);replace HOX:=Lib.hid (HOX.out.ext hxp);replace HIX:=Lib.hid (HIX.out.ext hxp);go_upto_region 16 with fail;obtain ⟨gm,hgm⟩:∃ z,z0.heap.size = z:=⟨_,rfl⟩;obtain ⟨z1,hwt⟩:∃ Z,z0.alloc (.cells #[.string nm,.int .i64 wt,.slice X1 T c1,.slice Y1 T c2,.slice Z1 T c3] 77) = Z:=⟨_,rfl⟩;rw [hwt,hgm] at hbp;rw [hwt] at HXA H2 KB KF FF KC GK HOX HIX;rw [hwt,hgm];have KM:=Lib.hid hbp;clear hbp hwt hgm hxp;clear e0 e1 e2 e3 e4;obtain ⟨i0,hi,hz0,hz1,hz2⟩:=info_parts Tryz.Y8x;obtain ⟨qs,hq1,hq2,hq3⟩:=Y7b FF.out;have HQ1:=Lib.hid hq1;have HQ2:=Lib.hid hq2;have HQ3:=Lib.hid hq3;have HQL:Hid (qs.length = NR):=Lib.hid (by rw [<- HRN.out.1,<- hq1,List.length_map])
 have HOC:Hid (∀ u ∈ qs.flatMap Q4g,u.oneCell' = true):=Lib.hid (Y6p hq2);clear hq1 hq2 hq3;go_upto_region 16 with fail;have hdr:=(Ext.refl z1).drew;refine Flow.Q4k [.w,.w,.w,.p,.w,.w,.p,.p,.w,.p,.p,.p,.w,.last,.last] [0,1,2,3,4,5,6,7,8,9,10,11,12,13,14] [[],[0],[],[],[3],[0,1,2,3,4],[0,1,2,3,4,5],[],[0,1,2,3,4,5,6,7],[0,1,2,3,4,5,6,7,8],[0,1,2,3,4,5,6,7,8,9],[0,1,2,3,4,5,6,7,8,9],[],[0,1,2,3,4,5,6,7,8,9,10,12],[0,1,2,3,4,5,6,7,8,9,10,11,12,13]] [13,14]
  [.c 0 (.agg #[.int .i64 lim,.slice A T capa,.slice (some ⟨bm,off,none⟩) M capb]),⟨fun v wz=>(fun v w'=>Q0o w' (v 1) s) v wz,by intro v a b hx h; exact Q0o.ext h hx⟩,⟨fun v wz=>Q0p wz (v 2) z1.heap.size 67,fun _ _ _ hx h=>h.ext hx⟩,.c 3 (.pointer (some ⟨gq,0,none⟩)),.c 4 (.slice Xf NR cf),⟨fun v wz=>(fun v w'=>∃ X c,v 5 = .slice X NR c /\ Q1n w' (.slice X NR c) p) v wz,by rintro v a b hx ⟨X,c,h1,h2⟩; exact ⟨X,c,h1,h2.ext hx⟩⟩,⟨fun v wz=>(fun v w'=>∃ X c,v 6 = .agg #[.slice X NR c] /\ Q1n w' (.slice X NR c) p) v wz,by rintro v a b hx ⟨X,c,h1,h2⟩; exact ⟨X,c,h1,h2.ext hx⟩⟩,.c 7 (.int .i64 (i:Int)),⟨fun v wz=>(fun v w'=>∃ x y,v 8 = .tuple #[.agg #[x,y],.int .i64 0] /\ Q0g w' 0 4 .bool x cl /\ Q0b w' y ((Q1z s i).Q2y cl)) v wz,by rintro v a b hx ⟨x,y,h1,h2,h3⟩; exact ⟨x,y,h1,Q0g.below h2 hx,h3.ext hx⟩⟩,⟨fun v wz=>(fun v w'=>v 9 = v 8) v wz,by intro v a b hx h; exact h⟩,⟨fun v wz=>(fun v w'=>v 8 = .tuple #[v 10,.int .i64 0]) v wz,by intro v a b hx h; exact h⟩,.c 11 (.int .i64 0),⟨fun v wz=>(fun v w'=>∃ g,v 12 = .pointer (some ⟨g,0,none⟩) /\ Blk w' g 80 #[.slice none 0 0,.slice none 0 0] /\ z1.heap.size <= g) v wz,by rintro v a b hx ⟨g,h1,h2,h3⟩; exact ⟨g,h1,h2.ext hx,h3⟩⟩,.none,.none]
  [fun v w1 w'=>Z6f s i cl z1 w' (v 12),fun v w1 w'=>v 14 = .int .i64 0 /\ Z6f s i cl z1 w' (v 12)] (by kernel_rfl) rfl (by kernel_rfl) ⟨?g0,?g1,?g2,?g3,?g4,?g5,?g6,?g7,?g8,?g9,?g10,?g11,?g12,?g13,?g14,trivial⟩ ?post
 case g0=>
  intro v w1 hx;intro bb hbb;intro K2 hK2;have o1:bb.eval (.tmp 2) = .pointer (some ⟨gs,0,none⟩):=by rw [hbb]; dsimp only; (try simp (discharger:=decide) only [eval_put_ne]); rfl
  exact Q0s (.tmp 2) _ rfl Tryz.Z1y Tryz.Y7t o1 (KB.out.ext (hdr.trans hx)) rfl (hK2 _ _ (Ext.refl _) rfl)
 case g1=>
  intro v w1 hx;(repeat intro (zq:v _ = _));intro bb hbb;subst hbb;intro K2 hK2;go_simp;refine Q0d (Q7w w1 _ s (HSEA.out _ (H2.out.ext (hdr.trans hx))) HS.out) ?_;rintro e w2 ⟨u,rfl,hu,hx2⟩;exact ⟨_,rfl,hK2 _ _ hx2 hu⟩
 case g2=>
  intro v w1 hx;intro bb hbb;subst hbb;intro K hK;go_simp;exact hK _ _ (Ext.box _ _) (Q0p.made _ _ _ (hdr.trans hx).size)
 case g3 | g7=>
  intro v w1 hx;intro bb hbb;subst hbb;refine ⟨_,fun w=>?_,rfl⟩;go_simp
 case g4=>
  intro v w1 hx;(repeat intro (zq:v _ = _));intro bb hbb;subst hbb;have n0:w1.cell? ⟨gq,0,none⟩ = some (.slice Xf NR cf):=(KF.out.ext (hdr.trans hx)).cell 0;intro K hK;go_simp;exact hK _ _ (Ext.refl _) rfl
 case g5=>
  intro v w1 hx (q0:v 0 = _) _ (q2:Q0p w1 (v 2) z1.heap.size 67) (q3:v 3 = _) (q4:v 4 = _);intro bb hbb;intro K hK;have o1:bb.eval (.tmp 88) = v 2:=by rw [hbb]; dsimp only; (try simp (discharger:=decide) only [eval_put_ne]); rw [Q0a (by simp only [size_put]; exact (by decide:88 < 200))]
  have o2:bb.eval (.tmp 90) = .slice Xf NR cf:=by rw [hbb]; dsimp only; (try simp (discharger:=decide) only [eval_put_ne]); rw [Q0a (by simp only [size_put]; exact (by decide:90 < 200))]; exact q4
  have hxx:=hdr.trans hx;exact Q8r (.tmp 88) (.tmp 90) 62 rfl z1.heap.size 67 i0 (.agg #[.slice none 0 0,.bool false]) 2 32 Tryz.underlying62 hi hz0 hz1 hz2 rfl (by decide) Q4g Q3g (v 2) qs o1 q2 Xf cf (by rw [HQL.out]; exact o2) (fun h0=>by obtain ⟨ad,e1,e2⟩:=HQ3.out h0; exact ⟨ad,e1,fun j z hz=>hxx.cell (e2 j z hz)⟩) HOC.out (by rw [HQL.out]; have:=HRN.out.2; omega) (by decide) hxx.size (fun v' w' hown hx2=>hK _ _ hx2 (X6i hown HQL.out HQ1.out HRN.out.2 (fun q hq=>(HQ2.out q hq).ext (hxx.trans hx2))))
 case g6=>
  intro v w1 hx (q0:v 0 = _) _ _ (q3:v 3 = _) (q4:v 4 = _) (q5:(fun v w'=>∃ X c,v 5 = .slice X NR c /\ Q1n w' (.slice X NR c) p) v w1);intro bb hbb;obtain ⟨X5,c5,e5,h5⟩:=q5;have o1:bb.eval (.tmp 91) = .slice X5 NR c5:=by rw [hbb]; dsimp only; (try simp (discharger:=decide) only [eval_put_ne]); rw [Q0a (by simp only [size_put]; exact (by decide:91 < 200))]; exact e5
  exact ⟨_,fun w=>Y3b (.tmp 91) rfl o1 (fun w=>X5f w _ _ _),⟨_,_,rfl,h5⟩⟩
 case g8=>
  intro v w1 hx (q0:v 0 = _) (q1:(fun v w'=>Q0o w' (v 1) s) v w1) _ (q3:v 3 = _) (q4:v 4 = _) _ (q6:(fun v w'=>∃ X c,v 6 = .agg #[.slice X NR c] /\ Q1n w' (.slice X NR c) p) v w1) (q7:v 7 = _);intro bb hbb;subst hbb;intro K2 hK2;go_simp;obtain ⟨X6,c6,e6,h6⟩:=q6;refine Q0d (Z1r w1 _ _ s _ i cl q1 ⟨_,e6,h6⟩ HS.out HV.out HE.out HRE.out HIM.out Hcl.out) ?_;rintro e w2 ⟨u,v,rfl,hu,hv,hx2⟩;exact ⟨_,rfl,hK2 _ _ hx2 ⟨_,_,rfl,hu,hv⟩⟩
 case g9=>
  intro v w1 hx (q0:v 0 = _) _ _ (q3:v 3 = _) (q4:v 4 = _) _ _ (q7:v 7 = _) _;intro bb hbb;have o1:bb.eval (.tmp 94) = v 8:=by rw [hbb]; dsimp only; (try simp (discharger:=decide) only [eval_put_ne]); rw [Q0a (by simp only [size_put]; exact (by decide:94 < 200))]
  exact ⟨_,fun w=>X3s (.tmp 94) rfl o1,rfl⟩
 case g10=>
  intro v w1 hx (q0:v 0 = _) _ _ (q3:v 3 = _) (q4:v 4 = _) _ _ (q7:v 7 = _) (q8:(fun v w'=>∃ x y,v 8 = .tuple #[.agg #[x,y],.int .i64 0] /\ Q0g w' 0 4 .bool x cl /\ Q0b w' y ((Q1z s i).Q2y cl)) v w1) (q9:(fun v w'=>v 9 = v 8) v w1);intro bb hbb;obtain ⟨x,y,h5,_⟩:=q8;have o1:bb.eval (.tmp 85) = .tuple #[.agg #[x,y],.int .i64 0]:=by rw [<- h5,<- q9]; rw [hbb]; dsimp only; (try simp (discharger:=decide) only [eval_put_ne]); rw [Q0a (by simp only [size_put]; exact (by decide:85 < 200))]
  exact ⟨_,fun w=>Q6e (.tmp 85) 0 rfl o1 (fun w=>Z6c w _ _),h5⟩
 case g11=>
  intro v w1 hx (q0:v 0 = _) _ _ (q3:v 3 = _) (q4:v 4 = _) _ _ (q7:v 7 = _) (q8:(fun v w'=>∃ x y,v 8 = .tuple #[.agg #[x,y],.int .i64 0] /\ Q0g w' 0 4 .bool x cl /\ Q0b w' y ((Q1z s i).Q2y cl)) v w1) (q9:(fun v w'=>v 9 = v 8) v w1);intro bb hbb;obtain ⟨x,y,h5,_⟩:=q8;have o1:bb.eval (.tmp 85) = .tuple #[.agg #[x,y],.int .i64 0]:=by rw [<- h5,<- q9]; rw [hbb]; dsimp only; (try simp (discharger:=decide) only [eval_put_ne]); rw [Q0a (by simp only [size_put]; exact (by decide:85 < 200))]
  exact ⟨_,fun w=>Q6e (.tmp 85) 1 rfl o1 (fun w=>Z4g w _ _),rfl⟩
 case g12=>
  intro v w1 hx;intro bb hbb;subst hbb;intro K hK;go_simp;exact hK _ _ (Ext.box _ _) ⟨_,rfl,Blk.made _ _ _,(hdr.trans hx).size⟩
 case g13=>
  intro v w1 hx (q0:v 0 = _) _ _ (q3:v 3 = _) (q4:v 4 = _) _ _ (q7:v 7 = _) (q8:(fun v w'=>∃ x y,v 8 = .tuple #[.agg #[x,y],.int .i64 0] /\ Q0g w' 0 4 .bool x cl /\ Q0b w' y ((Q1z s i).Q2y cl)) v w1) _ (q10:(fun v w'=>v 8 = .tuple #[v 10,.int .i64 0]) v w1) (q12:(fun v w'=>∃ g,v 12 = .pointer (some ⟨g,0,none⟩) /\ Blk w' g 80 #[.slice none 0 0,.slice none 0 0] /\ z1.heap.size <= g) v w1);intro wl hT;obtain rfl:wl = w1:=hT;intro bb hbb;intro K hK;obtain ⟨x,y,h5,hi5,hj5⟩:=q8;obtain ⟨g,e9,h9,h9s⟩:=q12;obtain ⟨X,c,rfl,-⟩:=hi5.shape;obtain ⟨Y,d,rfl,-,-,-⟩:=hj5.opened;have h7:v 10 = .agg #[.slice X cl.length c,.slice Y ((Q1z s i).Q2y cl).length d]:=by have h:=h5.symm.trans q10; simp only [Value.tuple.injEq,Array.mk.injEq,List.cons.injEq,and_true] at h; exact h.symm
  have o1:bb.eval (.tmp 13) = .pointer (some ⟨g,0,none⟩):=by rw [hbb]; dsimp only; (try simp (discharger:=decide) only [eval_put_ne]); rw [Q0a (by simp only [size_put]; exact (by decide:13 < 200))]; exact e9
  have o2:bb.eval (.tmp 95) = .agg #[.slice X cl.length c,.slice Y ((Q1z s i).Q2y cl).length d]:=by rw [hbb]; dsimp only; (try simp (discharger:=decide) only [eval_put_ne]); rw [Q0a (by simp only [size_put]; exact (by decide:95 < 200))]; exact h7
  exact Q3x (.tmp 13) (.tmp 95) _ rfl Tryz.X8p o1 o2 h9 rfl rfl Q5l (fun vv w' hb hl ho=>hK _ _ ⟨g,_,_,_,_,e9,hb,X6k hi5 h9 (by decide) (fun k _ hk=>ho k hk),Q5s hj5 h9 (fun k _ hk=>ho k hk),Below.trans (hdr.trans hx) (hl _ h9s)⟩)
 case g14=>
  intro v w1 hx (q0:v 0 = _) _ _ (q3:v 3 = _) (q4:v 4 = _) _ _ (q7:v 7 = _) _ _ _ (q11:v 11 = _) _;intro wl hT;replace hT:(fun v w1 w'=>Z6f s i cl z1 w' (v 12)) v w1 wl:=hT;intro bb hbb;subst hbb;intro K hK;go_simp;exact hK _ _ ⟨rfl,hT⟩
 case post =>
  intro v w1 hx (q0:v 0 = _) (q1:(fun v w'=>Q0o w' (v 1) s) v w1) (q2:Q0p w1 (v 2) z1.heap.size 67) (q3:v 3 = _) (q4:v 4 = _) (q5:(fun v w'=>∃ X c,v 5 = .slice X NR c /\ Q1n w' (.slice X NR c) p) v w1) (q6:(fun v w'=>∃ X c,v 6 = .agg #[.slice X NR c] /\ Q1n w' (.slice X NR c) p) v w1) (q7:v 7 = _) (q8:(fun v w'=>∃ x y,v 8 = .tuple #[.agg #[x,y],.int .i64 0] /\ Q0g w' 0 4 .bool x cl /\ Q0b w' y ((Q1z s i).Q2y cl)) v w1) (q9:(fun v w'=>v 9 = v 8) v w1) (q10:(fun v w'=>v 8 = .tuple #[v 10,.int .i64 0]) v w1) (q11:v 11 = _) (q12:(fun v w'=>∃ g,v 12 = .pointer (some ⟨g,0,none⟩) /\ Blk w' g 80 #[.slice none 0 0,.slice none 0 0] /\ z1.heap.size <= g) v w1);intro w2 hE;replace hE:(fun v w1 w'=>v 14 = .int .i64 0 /\ Z6f s i cl z1 w' (v 12)) v w1 w2:=hE;simp only [Flow.acts,Act.put];go_simp;obtain ⟨h14,gx,Xc,cx,Px,cpx,e9,hbc,hic,hjc,hxz⟩:=hE
  try rw [h14]
  try rw [e9]
  rw [HCLL.out] at hbc hic;rw [Q5n,HCLL.out] at hbc hjc;have hxx:=hxz;replace HXA:=Lib.hid (HXA.out.trans hxx);replace H2:=Lib.hid (H2.out.ext hxx);replace KB:=Lib.hid (KB.out.ext hxx);replace KF:=Lib.hid (KF.out.ext hxx);replace FF:=Lib.hid (FF.out.ext hxx);replace KC:=Lib.hid (KC.out.ext hxx);replace GK:=Lib.hid (GK.out.ext hxx);replace HOX:=Lib.hid (HOX.out.ext hxx);replace HIX:=Lib.hid (HIX.out.ext hxx);replace KM:=Lib.hid (KM.out.ext hxx);have KX:=Lib.hid (hbc);have HXB:=Lib.hid (OwnB.of hic);have HPX:=Lib.hid (hjc);obtain ⟨z2,rfl⟩:∃ Z,Z = w2:=⟨_,rfl⟩;clear hx hdr hxx q0 q1 q2 q3 q4 q5 q6 q7 q8 q9 q10 q11 q12 hbc hic hjc hxz h14 e9;have px0:=KX.out.cell 0;have px1:=KX.out.cell 1;simp only [Go.Tw.gA,Go.Tw.gB,Go.Tw.gC] at px0 px1;have ps0:=KB.out.cell 0;have ps1:=KB.out.cell 1;simp only [Go.Tw.gA,Go.Tw.gB,Go.Tw.gC] at ps0 ps1;have HTD:Hid (∀ W,Ext z2 W -> Calls Tryz.prog 20 #[.agg #[.string nm,.int .i64 wt,.slice X1 T c1,.slice Y1 T c2,.slice Z1 T c3],.slice Xc T cx] W fun e w'=>∃ r,e = .returned r /\ Q1v w' r (Q3u s i cl) /\ Ext W w'):=Lib.hid fun W hw=>by
   obtain ⟨-,l2,l3⟩:=HV.out.shaped i HIM.out;rw [HT.out] at l2 l3;have h:=Q8w W (.slice Xc T cx) nm wt X1 Y1 Z1 T c1 c2 c3 (Q0n s.members i) (Q0v s.members i) cl (by rw [l2]; exact HOX.out.ext hw) (by rw [l3]; exact HIX.out.ext hw) ((HXB.out.ext hw).bools (by have:=HCLL.out; have:=HT6.out; omega)) (by rw [l2,HCLL.out]; exact Nat.le_refl _) (by rw [l3,HCLL.out]; exact Nat.le_refl _) (by have:=HCLL.out; have:=HT6.out; omega)
   rw [l2,l3] at h;exact h
  go_wp2_with (first | (refine Q0j rfl _ 77 rfl Tryz.Z1v Tryz.Y3k rfl KM.out rfl ?_) | fail)
  refine (HTD.out _ (Ext.refl _)).mono ?_;rintro e z3 ⟨tv,rfl,htv,hx⟩;replace HXA:=Lib.hid (HXA.out.trans hx);replace H2:=Lib.hid (H2.out.ext hx);replace KB:=Lib.hid (KB.out.ext hx);replace KF:=Lib.hid (KF.out.ext hx);replace FF:=Lib.hid (FF.out.ext hx);replace KC:=Lib.hid (KC.out.ext hx);replace GK:=Lib.hid (GK.out.ext hx);replace HOX:=Lib.hid (HOX.out.ext hx);replace HIX:=Lib.hid (HIX.out.ext hx);replace KM:=Lib.hid (KM.out.ext hx);replace KX:=Lib.hid (KX.out.ext hx);replace HXB:=Lib.hid (HXB.out.ext hx);replace HPX:=Lib.hid (HPX.out.ext hx);have HTV:=Lib.hid htv;clear htv hx px0 px1 ps0 ps1 HTD;have ps0:=KB.out.cell 0;have ps1:=KB.out.cell 1;simp only [Go.Tw.gA,Go.Tw.gB,Go.Tw.gC] at ps0 ps1;go_wp2_with fail;refine (Q8a _ lim).mono ?_;rintro e z4 ⟨ub,rfl,hub,hx⟩;replace HXA:=Lib.hid (HXA.out.trans hx);replace H2:=Lib.hid (H2.out.ext hx);replace KB:=Lib.hid (KB.out.ext hx);replace KF:=Lib.hid (KF.out.ext hx);replace FF:=Lib.hid (FF.out.ext hx);replace KC:=Lib.hid (KC.out.ext hx);replace GK:=Lib.hid (GK.out.ext hx);replace HOX:=Lib.hid (HOX.out.ext hx);replace HIX:=Lib.hid (HIX.out.ext hx);replace KM:=Lib.hid (KM.out.ext hx);replace KX:=Lib.hid (KX.out.ext hx);replace HXB:=Lib.hid (HXB.out.ext hx);replace HPX:=Lib.hid (HPX.out.ext hx);replace HTV:=Lib.hid (HTV.out.ext hx);have HUB:=Lib.hid hub;clear hub hx ps0 ps1;go_wp2_with fail;obtain ⟨W,hWW,k0,HXW,eW⟩:=Q2q z4 3 #[.int .i64 0];rw [hWW];clear hWW;have hrun:=Y4v W ub _ tv s i cl (by rw [HLIM.out]; exact HUB.out.ext HXW.out) (Q2m (l:=[0]) k0 rfl rfl (by decide)) (HTV.out.ext HXW.out) HV.out HIM.out (by rw [HT.out,HCLL.out])
  refine hrun.mono ?_;rintro e z5 ⟨rv,rfl,hrv,hx⟩;replace hx:=HXW.out.trans hx;replace HXA:=Lib.hid (HXA.out.trans hx);replace H2:=Lib.hid (H2.out.ext hx);replace KB:=Lib.hid (KB.out.ext hx);replace KF:=Lib.hid (KF.out.ext hx);replace FF:=Lib.hid (FF.out.ext hx);replace KC:=Lib.hid (KC.out.ext hx);replace GK:=Lib.hid (GK.out.ext hx);replace HOX:=Lib.hid (HOX.out.ext hx);replace HIX:=Lib.hid (HIX.out.ext hx);replace KM:=Lib.hid (KM.out.ext hx);replace KX:=Lib.hid (KX.out.ext hx);replace HXB:=Lib.hid (HXB.out.ext hx);replace HPX:=Lib.hid (HPX.out.ext hx);replace HTV:=Lib.hid (HTV.out.ext hx);obtain ⟨RR,capr,rfl,-,-,-⟩:=hrv.opened;have hvl:(Q9h (Q3k s.limit) [0] (Q3u s i cl) (2 * cl.length)).length = 2 * T:=by unfold Q9h; rw [List.length_map,List.length_range,HCLL.out]
  rw [hvl] at hrv ⊢;obtain ⟨nl,hnl⟩:∃ z,2 * T = z:=⟨_,rfl⟩;have HNL:=Lib.hid hnl;rw [hnl] at hrv ⊢;have HRV:=Lib.hid hrv;clear hrv hrun hvl hx HXW eW k0 HUB hnl;have hdr:=(Ext.refl z5).drew;obtain ⟨ef,hef⟩:∃ z,(if has (Q2h s p) (i:Int) = true then (7:Int) else 0) = z:=⟨_,rfl⟩
  have HEF:=Lib.hid hef;clear hef;have HTD:Hid (∀ W,Ext z5 W -> Calls Tryz.prog 20 #[.agg #[.string nm,.int .i64 wt,.slice X1 T c1,.slice Y1 T c2,.slice Z1 T c3],.slice Xc T cx] W fun e w'=>∃ r,e = .returned r /\ Q1v w' r (Q3u s i cl) /\ Ext W w'):=Lib.hid fun W hw=>by
   obtain ⟨-,l2,l3⟩:=HV.out.shaped i HIM.out;rw [HT.out] at l2 l3;have h:=Q8w W (.slice Xc T cx) nm wt X1 Y1 Z1 T c1 c2 c3 (Q0n s.members i) (Q0v s.members i) cl (by rw [l2]; exact HOX.out.ext hw) (by rw [l3]; exact HIX.out.ext hw) ((HXB.out.ext hw).bools (by have:=HCLL.out; have:=HT6.out; omega)) (by rw [l2,HCLL.out]; exact Nat.le_refl _) (by rw [l3,HCLL.out]; exact Nat.le_refl _) (by have:=HCLL.out; have:=HT6.out; omega)
   rw [l2,l3] at h;exact h
  go_upto_region 21 with fail;refine Flow.Q1p [.p,.w,.w,.w,.w,.p,.w,.w,.w,.p,.p,.p,.p,.p,.p,.p] [0,1,2,3,4,5,6,7,8,9,10,11,12,13,14,15] [[],[0],[1],[],[],[],[5],[2,4,6],[2,3,7],[8],[8,9],[8,9],[8,9],[0,1,2,3,4,5,6,7,8,9,10],[0,1,2,3,4,5,6,7,8,9,10,11,13],[0,1,2,3,4,5,6,7,8,9,10,11,12,13,14]]
   [.c 0 (.pointer (some ⟨gs,0,none⟩)),.c 1 (.int .i64 lim),⟨fun v wz=>(fun v w'=>Q1s w' (v 2) (Q3k lim)) v wz,by intro v a b hx h; exact Q1s.ext h hx⟩,⟨fun v wz=>(fun v w'=>Q0b w' (v 3) [0]) v wz,by intro v a b hx h; exact Q0b.ext h hx⟩,.c 4 (.agg #[.string nm,.int .i64 wt,.slice X1 T c1,.slice Y1 T c2,.slice Z1 T c3]),.c 5 (.pointer (some ⟨gx,0,none⟩)),.c 6 (.slice Xc T cx),⟨fun v wz=>(fun v w'=>Q1v w' (v 7) (Q3u s i cl)) v wz,by intro v a b hx h; exact Q1v.ext h hx⟩,⟨fun v wz=>(fun v w'=>∃ a b:Int,v 8 = .tuple #[.int .i64 a,.int .i64 b,.int .i64 ef]) v wz,by intro v a b hx h; exact h⟩,⟨fun v wz=>(fun v w'=>v 9 = v 8) v wz,by intro v a b hx h; exact h⟩,⟨fun v wz=>(fun v w'=>∃ a:Int,v 10 = .int .i64 a) v wz,by intro v a b hx h; exact h⟩,⟨fun v wz=>(fun v w'=>∃ a:Int,v 11 = .int .i64 a) v wz,by intro v a b hx h; exact h⟩,.c 12 (.int .i64 ef),⟨fun v wz=>(fun v w'=>v 13 = v 10) v wz,by intro v a b hx h; exact h⟩,⟨fun v wz=>(fun v w'=>v 14 = v 11) v wz,by intro v a b hx h; exact h⟩,.c 15 (.int .i64 ef)]
   (by kernel_rfl) rfl (by kernel_rfl) ⟨?g0,?g1,?g2,?g3,?g4,?g5,?g6,?g7,?g8,?g9,?g10,?g11,?g12,?g13,?g14,?g15,trivial⟩ ?post
  case g0 | g5=>
   intro v w1 hx;intro bb hbb;subst hbb;refine ⟨_,fun w=>?_,rfl⟩;go_simp
  case g1 | g6=>
   intro v w1 hx;(repeat intro (zq:v _ = _));intro bb hbb;subst hbb;have n0:w1.cell? ⟨gs,0,none⟩ = some (.int .i64 lim):=(KB.out.ext (hdr.trans hx)).cell 0;have n1:w1.cell? ⟨gx,0,none⟩ = some (.slice Xc T cx):=(KX.out.ext (hdr.trans hx)).cell 0;intro K hK;go_simp;exact hK _ _ (Ext.refl _) rfl
  case g2=>
   intro v w1 hx;(repeat intro (zq:v _ = _));intro bb hbb;subst hbb;intro K2 hK2;go_simp;refine Q0d (Q8a w1 lim) ?_;rintro e w2 ⟨u,rfl,hu,hx2⟩;exact ⟨_,rfl,hK2 _ _ hx2 hu⟩
  case g3=>
   intro v w1 hx;intro bb hbb;subst hbb;intro K hK;go_simp;exact hK _ _ (Ext.box _ _) (Q2b (l:=[0]) (by simp))
  case g4=>
   intro v w1 hx;intro bb hbb;intro K2 hK2;have o1:bb.eval (.tmp 12) = .pointer (some ⟨gm,0,none⟩):=by rw [hbb]; dsimp only; (try simp (discharger:=decide) only [eval_put_ne]); rfl
   exact Q0s (.tmp 12) _ rfl Tryz.Z1v Tryz.Y3k o1 (KM.out.ext (hdr.trans hx)) rfl (hK2 _ _ (Ext.refl _) rfl)
  case g7=>
   intro v w1 hx _ (q4:v 4 = _) (q6:v 6 = _);intro bb hbb;subst hbb;intro K2 hK2;go_simp;refine Q0d (HTD.out w1 (hdr.trans hx)) ?_;rintro e w2 ⟨u,rfl,hu,hx2⟩;exact ⟨_,rfl,hK2 _ _ hx2 hu⟩
  case g8=>
   intro v w1 hx (q2:(fun v w'=>Q1s w' (v 2) (Q3k lim)) v w1) (q3:(fun v w'=>Q0b w' (v 3) [0]) v w1) (q7:(fun v w'=>Q1v w' (v 7) (Q3u s i cl)) v w1);intro bb hbb;subst hbb;intro K2 hK2;go_simp;refine Q0d (X9a w1 _ _ _ s p i cl (by rw [HLIM.out]; exact q2) q3 q7 HV.out HIM.out Hcl.out (by rw [HT.out,HCLL.out])) ?_
   rintro e w2 ⟨a,b,rfl,hx2⟩;exact ⟨_,rfl,hK2 _ _ hx2 ⟨a,b,congrArg (fun z=>Value.tuple #[.int .i64 a,.int .i64 b,.int .i64 z]) HEF.out⟩⟩
  case g9=>
   intro v w1 hx _;intro bb hbb;have o1:bb.eval (.tmp 139) = v 8:=by rw [hbb]; dsimp only; (try simp (discharger:=decide) only [eval_put_ne]); rw [Q0a (by simp only [size_put]; exact (by decide:139 < 200))]
   exact ⟨_,fun w=>X3s (.tmp 139) rfl o1,rfl⟩
  case g10=>
   intro v w1 hx (q8:(fun v w'=>∃ a b:Int,v 8 = .tuple #[.int .i64 a,.int .i64 b,.int .i64 ef]) v w1) (q9:(fun v w'=>v 9 = v 8) v w1);intro bb hbb;obtain ⟨a,b,h8⟩:=q8;have o1:bb.eval (.tmp 130) = .tuple #[.int .i64 a,.int .i64 b,.int .i64 ef]:=by rw [<- h8,<- q9]; rw [hbb]; dsimp only; (try simp (discharger:=decide) only [eval_put_ne]); rw [Q0a (by simp only [size_put]; exact (by decide:130 < 200))]
   exact ⟨_,fun w=>Q3t (.tmp 130) 0 rfl o1 rfl w,⟨_,rfl⟩⟩
  case g11=>
   intro v w1 hx (q8:(fun v w'=>∃ a b:Int,v 8 = .tuple #[.int .i64 a,.int .i64 b,.int .i64 ef]) v w1) (q9:(fun v w'=>v 9 = v 8) v w1);intro bb hbb;obtain ⟨a,b,h8⟩:=q8;have o1:bb.eval (.tmp 130) = .tuple #[.int .i64 a,.int .i64 b,.int .i64 ef]:=by rw [<- h8,<- q9]; rw [hbb]; dsimp only; (try simp (discharger:=decide) only [eval_put_ne]); rw [Q0a (by simp only [size_put]; exact (by decide:130 < 200))]
   exact ⟨_,fun w=>Q3t (.tmp 130) 1 rfl o1 rfl w,⟨_,rfl⟩⟩
  case g12=>
   intro v w1 hx (q8:(fun v w'=>∃ a b:Int,v 8 = .tuple #[.int .i64 a,.int .i64 b,.int .i64 ef]) v w1) (q9:(fun v w'=>v 9 = v 8) v w1);intro bb hbb;obtain ⟨a,b,h8⟩:=q8;have o1:bb.eval (.tmp 130) = .tuple #[.int .i64 a,.int .i64 b,.int .i64 ef]:=by rw [<- h8,<- q9]; rw [hbb]; dsimp only; (try simp (discharger:=decide) only [eval_put_ne]); rw [Q0a (by simp only [size_put]; exact (by decide:130 < 200))]
   exact ⟨_,fun w=>Q3t (.tmp 130) 2 rfl o1 rfl w,rfl⟩
  case g13=>
   intro v w1 hx (q0:v 0 = _) (q1:v 1 = _) _ _ (q4:v 4 = _) (q5:v 5 = _) (q6:v 6 = _) _ _ _ _;intro bb hbb;have o1:bb.eval (.tmp 140) = v 10:=by rw [hbb]; dsimp only; (try simp (discharger:=decide) only [eval_put_ne]); rw [Q0a (by simp only [size_put]; exact (by decide:140 < 200))]
   exact ⟨_,fun w=>X4j (.tmp 140) rfl o1,rfl⟩
  case g14=>
   intro v w1 hx (q0:v 0 = _) (q1:v 1 = _) _ _ (q4:v 4 = _) (q5:v 5 = _) (q6:v 6 = _) _ _ _ _ _ _;intro bb hbb;have o1:bb.eval (.tmp 141) = v 11:=by rw [hbb]; dsimp only; (try simp (discharger:=decide) only [eval_put_ne]); rw [Q0a (by simp only [size_put]; exact (by decide:141 < 200))]
   exact ⟨_,fun w=>X4j (.tmp 141) rfl o1,rfl⟩
  case g15=>
   intro v w1 hx (q0:v 0 = _) (q1:v 1 = _) _ _ (q4:v 4 = _) (q5:v 5 = _) (q6:v 6 = _) _ _ _ _ _ (q12:v 12 = _) _ _;intro bb hbb;subst hbb;refine ⟨_,fun w=>?_,rfl⟩;go_simp
  case post =>
   intro v w1 hx;(iterate 2 intro (zq:v _ = _));intro (q2:(fun v w'=>Q1s w' (v 2) (Q3k lim)) v w1) (q3:(fun v w'=>Q0b w' (v 3) [0]) v w1);(iterate 3 intro (zq:v _ = _));intro (q7:(fun v w'=>Q1v w' (v 7) (Q3u s i cl)) v w1) (q8:(fun v w'=>∃ a b:Int,v 8 = .tuple #[.int .i64 a,.int .i64 b,.int .i64 ef]) v w1) (q9:(fun v w'=>v 9 = v 8) v w1) (q10:(fun v w'=>∃ a:Int,v 10 = .int .i64 a) v w1) (q11:(fun v w'=>∃ a:Int,v 11 = .int .i64 a) v w1);(iterate 1 intro (zq:v _ = _));intro (q13:(fun v w'=>v 13 = v 10) v w1) (q14:(fun v w'=>v 14 = v 11) v w1);(iterate 1 intro (zq:v _ = _));simp only [Flow.All,Flow.acts,Act.put];go_simp;have hxx:=hdr.trans hx;replace HXA:=Lib.hid (HXA.out.trans hxx);replace H2:=Lib.hid (H2.out.ext hxx);replace KB:=Lib.hid (KB.out.ext hxx);replace KF:=Lib.hid (KF.out.ext hxx);replace FF:=Lib.hid (FF.out.ext hxx);replace KC:=Lib.hid (KC.out.ext hxx);replace GK:=Lib.hid (GK.out.ext hxx);replace HOX:=Lib.hid (HOX.out.ext hxx);replace HIX:=Lib.hid (HIX.out.ext hxx);replace KM:=Lib.hid (KM.out.ext hxx);replace KX:=Lib.hid (KX.out.ext hxx);replace HXB:=Lib.hid (HXB.out.ext hxx);replace HPX:=Lib.hid (HPX.out.ext hxx);replace HTV:=Lib.hid (HTV.out.ext hxx);replace HRV:=Lib.hid (HRV.out.ext hxx);obtain ⟨z6,rfl⟩:∃ Z,Z = w1:=⟨_,rfl⟩;clear hx hdr hxx q2 q3 q7 q8 q9 q10 q11 q13 q14;(repeat clear zq);clear HTD HTV;obtain ⟨kb,hkb⟩:∃ z,has (Q2h s p) (i:Int) = z:=⟨_,rfl⟩;have HKB:=Lib.hid hkb;rw [hkb] at HEF;clear hkb;have hwm:IntKind.i64.wrap (2 * (T:Int)) = (nl:Int):=by have:=HNL.out; have:=HT6.out; rw [Q1t (by omega) (by omega)]; omega
   have ps0:=KB.out.cell 0;have ps1:=KB.out.cell 1;simp only [Go.Tw.gA,Go.Tw.gB,Go.Tw.gC] at ps0 ps1;have pc0:=KC.out.cell 0;have pc1:=KC.out.cell 1;simp only [Go.Tw.gA,Go.Tw.gB,Go.Tw.gC] at pc0 pc1;go_upto_region 22 with fail
   go_cut [170] from 143 to 170 (fun x wx=>x = .bool false /\ wx = z6)
   case first =>
    cases kb with
    | true =>
      obtain rfl:ef = 7:=HEF.out.symm;go_wp2_with fail;refine (X6z _ _ (Q2h s p) (i:Int) GK.out).mono ?_;rintro e w9 ⟨rfl,hw9⟩;subst hw9;rw [HKB.out];go_wp2_with fail;go_meet;exact ⟨rfl,rfl⟩
    | false =>
      obtain rfl:ef = 0:=HEF.out.symm;go_wp2_with fail;refine (X6z _ _ (Q2h s p) (i:Int) GK.out).mono ?_;rintro e w9 ⟨rfl,hw9⟩;subst hw9;rw [HKB.out];go_wp2_with fail;go_meet;exact ⟨rfl,rfl⟩
   case rest =>
    obtain ⟨rfl,hcut⟩:=hcut;rw [hcut];clear hcut;clear ps0 ps1 pc0 pc1 hwm;have px0:=KX.out.cell 0;have px1:=KX.out.cell 1;simp only [Go.Tw.gA,Go.Tw.gB,Go.Tw.gC] at px0 px1;obtain ⟨P9,c9,h9,-,-,hcp⟩:=HPX.out.opened;rw [Q5n,HCLL.out] at h9 hcp;injection h9 with k1 k2 k3;subst k1 k3;have HCP:=Lib.hid hcp;obtain ⟨P9,c9,h9,-,-,hcr⟩:=HRV.out.opened;have hvl:(Q9h (Q3k s.limit) [0] (Q3u s i cl) (2 * cl.length)).length = nl:=by unfold Q9h; rw [List.length_map,List.length_range,HCLL.out,HNL.out]
    rw [hvl] at h9 hcr;injection h9 with k1 k2 k3;subst k1 k3;have HCR:=Lib.hid hcr;clear hcp hcr hvl k2;go_wp2;clear px0 px1
    go_loopw [174] (fun iv wr=>∃ t:Nat,t <= T /\ iv = .int .i64 t /\ wr = z6) (fun iv _=>T - (intOf iv).toNat)
    case atStart=>exact ⟨0,Nat.zero_le _,rfl,rfl⟩
    case round =>
     obtain ⟨t,ht,rfl,rfl⟩:=hrel
     by_cases hlt:t < T
     . have htI:(t:Int) < (T:Int):=by omega
       have HTT:=Lib.hid hlt;have HWT:Hid (wrap64 ((t:Int) + 1) = (t:Int) + 1):=Lib.hid (by have:=HT6.out; unfold wrap64; omega)
       obtain ⟨bp,op,rfl,d0⟩:=HCP.out t hlt;obtain ⟨k2,hk2⟩:∃ z,2 * t = z:=⟨_,rfl⟩;obtain ⟨br,orr,mr,rfl,-,d1,hmr⟩:=HCR.out k2 (by have:=HNL.out; omega)
       rw [<- hk2,Y9l HV.out HIM.out (by rw [HT.out,HCLL.out]) (by rw [HCLL.out]; exact hlt)] at hmr
       obtain ⟨x,hxk⟩:∃ z,ix ((Q1z s i).Q2y cl) t = z:=⟨_,rfl⟩;rw [hxk] at hmr d0;obtain ⟨MM,cm,rfl,-,-,hcm⟩:=hmr.opened;obtain ⟨bm,om,rfl,d2⟩:=hcm 0 (show 0 < 1 by decide)
       rw [Nat.add_zero] at d2;replace d2:World.cell? _ _ = some (.int .i64 x):=d2;have hw2:IntKind.i64.wrap (2 * (t:Int)) = (k2:Int):=by have:=HT6.out; rw [Q1t (by omega) (by omega)]; omega
       have hk2I:(k2:Int) < (nl:Int):=by have:=HNL.out; omega
       replace d1:World.cell? _ _ = some (.slice (some ⟨bm,om,none⟩) 1 cm):=d1;clear hmr hcm hxk hk2 ht hlt;go_wp2;go_roundw
       case rel=>exact ⟨t + 1,by have:=HTT.out; omega,by (try rw [HWT.out]); go_num,trivial⟩
       case measure=>have:=HTT.out; (try rw [HWT.out]); simp [intOf]; omega
     . obtain rfl:t = T:=by omega
       have htI:¬ (t:Int) < (t:Int):=by omega
       go_wp2
       apply HQ.out
       exact HXA.out
end Go.Proofs
namespace Go.Proofs
open Go.RowKit Go.Tw Go.Flow Go.Ba
attribute [local go_sem] Oper.semAt_some
theorem Tryz.Y8h (w:World):(sizeOf 69).run Tryz.prog w = .ok 2 w:=by kernel_rfl
theorem Y9z {F:Array Value} (h:F.size = 200):∃ u:Nat -> Value,F = #[u 0,u 1,u 2,u 3,u 4,u 5,u 6,u 7,u 8,u 9,u 10,u 11,u 12,u 13,u 14,u 15,u 16,u 17,u 18,u 19,u 20,u 21,u 22,u 23,u 24,u 25,u 26,u 27,u 28,u 29,u 30,u 31,u 32,u 33,u 34,u 35,u 36,u 37,u 38,u 39,u 40,u 41,u 42,u 43,u 44,u 45,u 46,u 47,u 48,u 49,u 50,u 51,u 52,u 53,u 54,u 55,u 56,u 57,u 58,u 59,u 60,u 61,u 62,u 63,u 64,u 65,u 66,u 67,u 68,u 69,u 70,u 71,u 72,u 73,u 74,u 75,u 76,u 77,u 78,u 79,u 80,u 81,u 82,u 83,u 84,u 85,u 86,u 87,u 88,u 89,u 90,u 91,u 92,u 93,u 94,u 95,u 96,u 97,u 98,u 99,u 100,u 101,u 102,u 103,u 104,u 105,u 106,u 107,u 108,u 109,u 110,u 111,u 112,u 113,u 114,u 115,u 116,u 117,u 118,u 119,u 120,u 121,u 122,u 123,u 124,u 125,u 126,u 127,u 128,u 129,u 130,u 131,u 132,u 133,u 134,u 135,u 136,u 137,u 138,u 139,u 140,u 141,u 142,u 143,u 144,u 145,u 146,u 147,u 148,u 149,u 150,u 151,u 152,u 153,u 154,u 155,u 156,u 157,u 158,u 159,u 160,u 161,u 162,u 163,u 164,u 165,u 166,u 167,u 168,u 169,u 170,u 171,u 172,u 173,u 174,u 175,u 176,u 177,u 178,u 179,u 180,u 181,u 182,u 183,u 184,u 185,u 186,u 187,u 188,u 189,u 190,u 191,u 192,u 193,u 194,u 195,u 196,u 197,u 198,u 199]:=by
 refine ⟨fun i=>F.getD i undef,?_⟩;have e:F = ((List.range 200).map fun i=>F.getD i undef).toArray:=by
  apply Array.ext
  . simp [h]
  . intro i h1 h2
    simp [h1]
 exact e.trans (by kernel_rfl)
theorem Z6b {w z0:World} {s:Q0c} {p:List Rul} {A B Xf:Option Addr} {T M capa capb gs gq NR cf:Nat} {lim:Int} (HXA:Hid (Ext w z0)) (H2:Hid (Q3s z0 (.slice A T capa) (.slice B M capb) s)) (KB:Hid (Blk z0 gs 55 #[.int .i64 lim,.slice A T capa,.slice B M capb])) (KF:Hid (Blk z0 gq 64 #[.slice Xf NR cf])) (FF:Hid (Q1n z0 (.slice Xf NR cf) p)) (HSEA:Hid (∀ W,Q3s W (.slice A T capa) (.slice B M capb) s -> Q0o W (.agg #[.int .i64 lim,.slice A T capa,.slice B M capb]) s)) (HS:Hid (Q3z s)) (HE:Hid (s.err = 0)) (HT:Hid (s.ships.length = T)) (HM:Hid (s.members.length = M)) (HLIM:Hid (s.limit = lim)) (HRE:Hid (Q0x s.hist p = 0)) (HRN:Hid (p.length = NR /\ NR <= 4096))
    (F:Array Value) (hF:F.size = 200) (f2:F[2]? = some (.pointer (some ⟨gs,0,none⟩))) (f6:F[6]? = some (.pointer (some ⟨gq,0,none⟩))) :
    (codeFrom Tryz.f4 10).wp Tryz.prog (bodyPost Tryz.prog Tryz.f4 (fun e w'=>e = .returned (.bool true) /\ Ext w w')) ⟨F,[]⟩ z0:=by
 obtain ⟨u,rfl⟩:=Y9z hF;replace f2:u 2 = _:=Option.some.inj f2;replace f6:u 6 = _:=Option.some.inj f6;rw [f2,f6];clear hF f2 f6
 conv=>arg 2; whnf
 have HV:=Lib.hid (Q1d.of HE.out);go_upto_region 10 with fail;have hdr:=(Ext.refl z0).drew;refine Flow.Q4k [.w,.w,.w,.w,.p,.p,.p,.w,.last,.last] [0,1,2,3,4,5,6,7,8,9] [[],[0],[],[0,1,2],[0,1,2,3],[0,1,2,3,4],[0,1,2,3,4],[],[0,1,2,3,4,5,7],[0,1,2,3,4,5,6,7,8]] [8,9]
  [.c 0 (.agg #[.int .i64 lim,.slice A T capa,.slice B M capb]),⟨fun v wz=>(fun v w'=>Q0o w' (v 1) s) v wz,by intro v a b hx h; exact Q0o.ext h hx⟩,.c 2 (.agg #[.slice Xf NR cf]),⟨fun v wz=>(fun v w'=>∃ x y,v 3 = .tuple #[.agg #[x,y],.int .i64 0] /\ Q1n w' x p /\ Q0b w' y (Q2h s p)) v wz,by rintro v a b hx ⟨x,y,h1,h2,h3⟩; exact ⟨x,y,h1,h2.ext hx,h3.ext hx⟩⟩,⟨fun v wz=>(fun v w'=>v 4 = v 3) v wz,by intro v a b hx h; exact h⟩,⟨fun v wz=>(fun v w'=>v 3 = .tuple #[v 5,.int .i64 0]) v wz,by intro v a b hx h; exact h⟩,.c 6 (.int .i64 0),⟨fun v wz=>(fun v w'=>∃ g,v 7 = .pointer (some ⟨g,0,none⟩) /\ Blk w' g 69 #[.slice none 0 0,.slice none 0 0] /\ z0.heap.size <= g) v wz,by rintro v a b hx ⟨g,h1,h2,h3⟩; exact ⟨g,h1,h2.ext hx,h3⟩⟩,.none,.none]
  [fun v w1 w'=>∃ g x Y d,v 7 = .pointer (some ⟨g,0,none⟩) /\ Blk w' g 69 #[x,.slice Y (Q2h s p).length d] /\ Q0b w' (.slice Y (Q2h s p).length d) (Q2h s p) /\ Ext z0 w',fun v w1 w'=>v 9 = .int .i64 0 /\ ∃ g x Y d,v 7 = .pointer (some ⟨g,0,none⟩) /\ Blk w' g 69 #[x,.slice Y (Q2h s p).length d] /\ Q0b w' (.slice Y (Q2h s p).length d) (Q2h s p) /\ Ext z0 w'] (by kernel_rfl) rfl (by kernel_rfl) ⟨?g0,?g1,?g2,?g3,?g4,?g5,?g6,?g7,?g8,?g9,trivial⟩ ?post
 case g0=>
  intro v w1 hx;intro bb hbb;intro K2 hK2;have o1:bb.eval (.tmp 2) = .pointer (some ⟨gs,0,none⟩):=by rw [hbb]; dsimp only; (try simp (discharger:=decide) only [eval_put_ne]); rfl
  exact Q0s (.tmp 2) _ rfl Tryz.Z1y Tryz.Y7t o1 (KB.out.ext (hdr.trans hx)) rfl (hK2 _ _ (Ext.refl _) rfl)
 case g1=>
  intro v w1 hx;(repeat intro (zq:v _ = _));intro bb hbb;subst hbb;intro K2 hK2;go_simp;refine Q0d (Q7w w1 _ s (HSEA.out _ (H2.out.ext (hdr.trans hx))) HS.out) ?_;rintro e w2 ⟨u,rfl,hu,hx2⟩;exact ⟨_,rfl,hK2 _ _ hx2 hu⟩
 case g2=>
  intro v w1 hx;intro bb hbb;intro K2 hK2;have o1:bb.eval (.tmp 6) = .pointer (some ⟨gq,0,none⟩):=by rw [hbb]; dsimp only; (try simp (discharger:=decide) only [eval_put_ne]); rfl
  exact Q0s (.tmp 6) _ rfl Tryz.Z5u Tryz.Z3n o1 (KF.out.ext (hdr.trans hx)) rfl (hK2 _ _ (Ext.refl _) rfl)
 case g3=>
  intro v w1 hx (q0:v 0 = _) (q1:(fun v w'=>Q0o w' (v 1) s) v w1) (q2:v 2 = _);intro bb hbb;subst hbb;intro K2 hK2;go_simp;refine Q0d (Y1z w1 _ _ s p q1 ⟨_,rfl,FF.out.ext (hdr.trans hx)⟩ HS.out HE.out HRE.out) ?_;rintro e w2 ⟨u,v,rfl,hu,hv,hx2⟩;exact ⟨_,rfl,hK2 _ _ hx2 ⟨_,_,rfl,hu,hv⟩⟩
 case g4=>
  intro v w1 hx (q0:v 0 = _) _ (q2:v 2 = _) _;intro bb hbb;have o1:bb.eval (.tmp 63) = v 3:=by rw [hbb]; dsimp only; (try simp (discharger:=decide) only [eval_put_ne]); rw [Q0a (by simp only [size_put]; exact (by decide:63 < 200))]
  exact ⟨_,fun w=>X3s (.tmp 63) rfl o1,rfl⟩
 case g5=>
  intro v w1 hx (q0:v 0 = _) _ (q2:v 2 = _) (q3:(fun v w'=>∃ x y,v 3 = .tuple #[.agg #[x,y],.int .i64 0] /\ Q1n w' x p /\ Q0b w' y (Q2h s p)) v w1) (q4:(fun v w'=>v 4 = v 3) v w1);intro bb hbb;obtain ⟨x,y,h5,_⟩:=q3;have o1:bb.eval (.tmp 59) = .tuple #[.agg #[x,y],.int .i64 0]:=by rw [<- h5,<- q4]; rw [hbb]; dsimp only; (try simp (discharger:=decide) only [eval_put_ne]); rw [Q0a (by simp only [size_put]; exact (by decide:59 < 200))]
  exact ⟨_,fun w=>Q6e (.tmp 59) 0 rfl o1 (fun w=>Z6c w _ _),h5⟩
 case g6=>
  intro v w1 hx (q0:v 0 = _) _ (q2:v 2 = _) (q3:(fun v w'=>∃ x y,v 3 = .tuple #[.agg #[x,y],.int .i64 0] /\ Q1n w' x p /\ Q0b w' y (Q2h s p)) v w1) (q4:(fun v w'=>v 4 = v 3) v w1);intro bb hbb;obtain ⟨x,y,h5,_⟩:=q3;have o1:bb.eval (.tmp 59) = .tuple #[.agg #[x,y],.int .i64 0]:=by rw [<- h5,<- q4]; rw [hbb]; dsimp only; (try simp (discharger:=decide) only [eval_put_ne]); rw [Q0a (by simp only [size_put]; exact (by decide:59 < 200))]
  exact ⟨_,fun w=>Q6e (.tmp 59) 1 rfl o1 (fun w=>Z4g w _ _),rfl⟩
 case g7=>
  intro v w1 hx;intro bb hbb;subst hbb;intro K hK;go_simp;exact hK _ _ (Ext.box _ _) ⟨_,rfl,Blk.made _ _ _,(hdr.trans hx).size⟩
 case g8=>
  intro v w1 hx (q0:v 0 = _) _ (q2:v 2 = _) (q3:(fun v w'=>∃ x y,v 3 = .tuple #[.agg #[x,y],.int .i64 0] /\ Q1n w' x p /\ Q0b w' y (Q2h s p)) v w1) _ (q5:(fun v w'=>v 3 = .tuple #[v 5,.int .i64 0]) v w1) (q7:(fun v w'=>∃ g,v 7 = .pointer (some ⟨g,0,none⟩) /\ Blk w' g 69 #[.slice none 0 0,.slice none 0 0] /\ z0.heap.size <= g) v w1);intro wl hT;obtain rfl:wl = w1:=hT;intro bb hbb;intro K hK;obtain ⟨x,y,h5,hi5,hj5⟩:=q3;obtain ⟨g,e9,h9,h9s⟩:=q7;obtain ⟨X,c,rfl,-⟩:=hi5.opened;obtain ⟨Y,d,rfl,-,-,-⟩:=hj5.opened;have h7:v 5 = .agg #[.slice X p.length c,.slice Y (Q2h s p).length d]:=by have h:=h5.symm.trans q5; simp only [Value.tuple.injEq,Array.mk.injEq,List.cons.injEq,and_true] at h; exact h.symm
  have o1:bb.eval (.tmp 9) = .pointer (some ⟨g,0,none⟩):=by rw [hbb]; dsimp only; (try simp (discharger:=decide) only [eval_put_ne]); rw [Q0a (by simp only [size_put]; exact (by decide:9 < 200))]; exact e9
  have o2:bb.eval (.tmp 64) = .agg #[.slice X p.length c,.slice Y (Q2h s p).length d]:=by rw [hbb]; dsimp only; (try simp (discharger:=decide) only [eval_put_ne]); rw [Q0a (by simp only [size_put]; exact (by decide:64 < 200))]; exact h7
  exact Q3x (.tmp 9) (.tmp 64) _ rfl Tryz.Y8h o1 o2 h9 rfl rfl Q5l (fun vv w' hb hl ho=>hK _ _ ⟨g,_,_,_,e9,hb,Q5s hj5 h9 (fun k _ hk=>ho k hk),Below.trans (hdr.trans hx) (hl _ h9s)⟩)
 case g9=>
  intro v w1 hx (q0:v 0 = _) _ (q2:v 2 = _) _ _ _ (q6:v 6 = _) _;intro wl hT;replace hT:(fun v w1 w'=>∃ g x Y d,v 7 = .pointer (some ⟨g,0,none⟩) /\ Blk w' g 69 #[x,.slice Y (Q2h s p).length d] /\ Q0b w' (.slice Y (Q2h s p).length d) (Q2h s p) /\ Ext z0 w') v w1 wl:=hT;intro bb hbb;subst hbb;intro K hK;go_simp;exact hK _ _ ⟨rfl,hT⟩
 case post =>
  intro v w1 hx;(iterate 1 intro (zq:v _ = _));intro (q1:(fun v w'=>Q0o w' (v 1) s) v w1);(iterate 1 intro (zq:v _ = _));intro (q3:(fun v w'=>∃ x y,v 3 = .tuple #[.agg #[x,y],.int .i64 0] /\ Q1n w' x p /\ Q0b w' y (Q2h s p)) v w1) (q4:(fun v w'=>v 4 = v 3) v w1) (q5:(fun v w'=>v 3 = .tuple #[v 5,.int .i64 0]) v w1);(iterate 1 intro (zq:v _ = _));intro (q7:(fun v w'=>∃ g,v 7 = .pointer (some ⟨g,0,none⟩) /\ Blk w' g 69 #[.slice none 0 0,.slice none 0 0] /\ z0.heap.size <= g) v w1);intro w2 hE;replace hE:(fun v w1 w'=>v 9 = .int .i64 0 /\ ∃ g x Y d,v 7 = .pointer (some ⟨g,0,none⟩) /\ Blk w' g 69 #[x,.slice Y (Q2h s p).length d] /\ Q0b w' (.slice Y (Q2h s p).length d) (Q2h s p) /\ Ext z0 w') v w1 w2:=hE;simp only [Flow.acts,Act.put];go_simp;obtain ⟨h14,gc,cv,Xk,ckk,e9,hbc,hjc,hxz⟩:=hE
  try rw [h14]
  try rw [e9]
  obtain ⟨nk,hnk⟩:∃ z,(Q2h s p).length = z:=⟨_,rfl⟩;have HNK:Hid (nk <= M):=Lib.hid (by rw [<- hnk,<- HM.out]; exact kept_len s p)
  rw [hnk] at hbc hjc;clear hnk;have hxx:=hxz;replace HXA:=Lib.hid (HXA.out.trans hxx);replace H2:=Lib.hid (H2.out.ext hxx);replace KB:=Lib.hid (KB.out.ext hxx);replace KF:=Lib.hid (KF.out.ext hxx);replace FF:=Lib.hid (FF.out.ext hxx);have KC:=Lib.hid (hbc);have GK:=Lib.hid (hjc);obtain ⟨z1,rfl⟩:∃ Z,Z = w2:=⟨_,rfl⟩;clear hx hdr hxx q1 q3 q4 q5 q7 hbc hjc hxz h14 e9;(repeat clear zq);have hgt:decide ((M:Int) < (nk:Int)) = false:=by have:=HNK.out; simp; omega
  have hgt2:¬ (M:Int) < (nk:Int):=by have:=HNK.out; omega
  have pc0:=KC.out.cell 0;have pc1:=KC.out.cell 1;simp only [Go.Tw.gA,Go.Tw.gB,Go.Tw.gC] at pc0 pc1;have ps0:=KB.out.cell 0;have ps1:=KB.out.cell 1;have ps2:=KB.out.cell 2;simp only [Go.Tw.gA,Go.Tw.gB,Go.Tw.gC] at ps0 ps1 ps2;go_wp2;clear pc0 pc1 ps0 ps1 ps2 hgt hgt2
  go_loopw [80] (fun iv wr=>∃ i:Nat,i <= M /\ iv = .int .i64 i /\ Ext z1 wr) (fun iv _=>M - (intOf iv).toNat)
  case atStart=>exact ⟨0,Nat.zero_le _,rfl,Ext.refl _⟩
  case round =>
   obtain ⟨i,hi,rfl,hxr⟩:=hrel;replace HXA:=Lib.hid (HXA.out.trans hxr);replace H2:=Lib.hid (H2.out.ext hxr);replace KB:=Lib.hid (KB.out.ext hxr);replace KF:=Lib.hid (KF.out.ext hxr);replace FF:=Lib.hid (FF.out.ext hxr);replace KC:=Lib.hid (KC.out.ext hxr);replace GK:=Lib.hid (GK.out.ext hxr);have HXN:=Lib.hid hxr;clear hxr
   by_cases hlt:i < M
   . have hiI:(i:Int) < (M:Int):=by omega
     have HI:=Lib.hid hlt;have HWK:Hid (wrap64 ((i:Int) + 1) = (i:Int) + 1):=Lib.hid (by have:=HV.out.some.2; have:=HM.out; unfold wrap64; omega)
     clear hlt hi;go_upto_if 81 with fail
     repeat ((fail_if_success refine (Z1u H2 KB KF FF KC GK HSEA HS HV HE HT HM HLIM HI HRE HRN ?_)); go_step)
     refine (Z1u H2 KB KF FF KC GK HSEA HS HV HE HT HM HLIM HI HRE HRN ?_);refine Lib.hid ?_
     intros
     rename_i w9 hx9
     have HX9:=Lib.hid (HXN.out.trans hx9);clear hx9;go_wp2;go_roundw
     case rel=>exact ⟨i + 1,by have:=HI.out; omega,by (try rw [HWK.out]); go_num,HX9.out⟩
     case measure=>have:=HI.out; (try rw [HWK.out]); simp [intOf]; omega
   . obtain rfl:i = M:=by omega
     have hiI:¬ (i:Int) < (i:Int):=by omega
     go_wp2_with fail;refine (Q4b _).mono ?_;rintro e w9 ⟨rfl,hx9⟩;have HX9:=Lib.hid (HXA.out.trans hx9);clear hx9;go_wp2;go_ret;exact ⟨rfl,HX9.out⟩
end Go.Proofs
namespace Go.Proofs
open Go.RowKit Go.Tw Go.Flow Go.Ba
attribute [local go_sem] Oper.semAt_some
theorem X0e (w:World) (v:Value) (s:Q0c) (code:Int) (hv:Q0o w v s) (hcd:code < 2 ^ 63) :
    Calls Tryz.prog 4 #[v,.int .i64 code] w fun e w'=>e = .returned (.bool true) /\ Ext w w':=by
 obtain ⟨a,b,rfl,h2⟩:=hv;obtain ⟨A,capa,rfl,-,-,-⟩:=h2.ships.opened;obtain ⟨B,capb,rfl,-,-,-⟩:=h2.members.opened;have HXA:=Lib.hid (Ext.refl w);have H2:=Lib.hid h2;obtain ⟨T,hT⟩:∃ T,s.ships.length = T:=⟨_,rfl⟩;have HT:=Lib.hid hT;obtain ⟨M,hM⟩:∃ M,s.members.length = M:=⟨_,rfl⟩;have HM:=Lib.hid hM;obtain ⟨lim,hlim⟩:∃ k,s.limit = k:=⟨_,rfl⟩;have HLIM:=Lib.hid hlim;have HSEA:Hid (∀ W,Q3s W (.slice A T capa) (.slice B M capb) s -> Q0o W (.agg #[.int .i64 lim,.slice A T capa,.slice B M capb]) s):=Lib.hid (fun W h=>⟨_,_,by rw [hlim],h⟩)
 rw [hT,hM] at H2;rw [hT,hM,hlim];have HC63:=Lib.hid hcd;clear h2 hT hM hlim hcd;go_enter Tryz.func4,Tryz.ntmps4;go_upto_region 1 with fail;obtain ⟨W,hWW,k0,HXW,eW⟩:=Q2q w 55 #[.int .i64 lim,.slice A T capa,.slice B M capb];rw [hWW];clear hWW;obtain ⟨gs,hgs⟩:∃ z,w.heap.size = z:=⟨_,rfl⟩;rw [hgs] at k0 ⊢;have KB:=Lib.hid k0;replace HXA:=Lib.hid HXW.out;replace H2:=Lib.hid (H2.out.ext HXW.out);obtain ⟨z0,rfl⟩:∃ Z,Z = W:=⟨_,rfl⟩;clear hgs k0 eW HXW;have d0KB:=KB.out.cell 0;have d1KB:=KB.out.cell 1;have d2KB:=KB.out.cell 2;simp only [Go.Tw.gA,Go.Tw.gB,Go.Tw.gC] at d0KB d1KB d2KB;go_wp2_with fail;refine (Y5o _ _ s (HSEA.out _ H2.out)).mono ?_;rintro e z1 ⟨q,rfl,hq,hx⟩;have hxx:Ext z0 z1:=hx;replace HXA:=Lib.hid (HXA.out.trans hxx);replace H2:=Lib.hid (H2.out.ext hxx);replace KB:=Lib.hid (KB.out.ext hxx);clear hx hxx d0KB d1KB d2KB;cases q with
 | false =>
   clear hq;go_wp2_with fail;refine (Q4b _).mono ?_;rintro e z2 ⟨rfl,hx⟩;have hxx:Ext z1 z2:=hx;replace HXA:=Lib.hid (HXA.out.trans hxx);replace H2:=Lib.hid (H2.out.ext hxx);replace KB:=Lib.hid (KB.out.ext hxx);clear hx hxx;go_wp2;go_ret;exact ⟨rfl,HXA.out⟩
 | true =>
   have hs:Q3z s:=hq.1 rfl;have HS:=Lib.hid hs;clear hs hq;have d0KB:=KB.out.cell 0;have d1KB:=KB.out.cell 1;have d2KB:=KB.out.cell 2;simp only [Go.Tw.gA,Go.Tw.gB,Go.Tw.gC] at d0KB d1KB d2KB;go_wp2_with fail;refine (X2g _ _ s (HSEA.out _ H2.out)).mono ?_;rintro e z2 ⟨rfl,hx⟩;have hxx:Ext z1 z2:=hx;replace HXA:=Lib.hid (HXA.out.trans hxx);replace H2:=Lib.hid (H2.out.ext hxx);replace KB:=Lib.hid (KB.out.ext hxx);clear hx hxx d0KB d1KB d2KB
   by_cases he:s.err = 0
   . skip
     have HE:=Lib.hid he;have HV:=Lib.hid (Q1d.of he);rw [he];clear he
     by_cases hc0:code < 0
     . skip
       have hcd:decide (code < 0) = true:=decide_eq_true hc0;go_wp2_with fail;refine (Q4b _).mono ?_;rintro e z3 ⟨rfl,hx⟩;have hxx:Ext z2 z3:=hx;replace HXA:=Lib.hid (HXA.out.trans hxx);replace H2:=Lib.hid (H2.out.ext hxx);replace KB:=Lib.hid (KB.out.ext hxx);clear hx hxx;go_wp2;go_ret;exact ⟨rfl,HXA.out⟩
     . skip
       have hcd:decide (code < 0) = false:=decide_eq_false hc0;obtain ⟨cN,rfl⟩:∃ n:Nat,code = (n:Int):=⟨code.toNat,by omega⟩
       have H63:Hid (cN < 2 ^ 63):=Lib.hid (by have:=HC63.out; omega)
       clear hc0;have d0KB:=KB.out.cell 0;have d1KB:=KB.out.cell 1;have d2KB:=KB.out.cell 2;simp only [Go.Tw.gA,Go.Tw.gB,Go.Tw.gC] at d0KB d1KB d2KB;go_wp2_with fail;refine (Y2m _ _ s cN (HSEA.out _ H2.out) HE.out H63.out).mono ?_;rintro e z3 ⟨xc,rfl,hu,hx⟩;have hxx:Ext z2 z3:=hx;replace HXA:=Lib.hid (HXA.out.trans hxx);replace H2:=Lib.hid (H2.out.ext hxx);replace KB:=Lib.hid (KB.out.ext hxx);clear hx hxx d0KB d1KB d2KB;obtain ⟨p,hp0⟩:∃ z,Q2v s cN = z:=⟨_,rfl⟩;have hp:=Z1t.policy HV.out hu;rw [hp0] at hp;have HRE:Hid (Q0x s.hist p = 0):=Lib.hid (by rw [<- hp0]; exact (X4x s cN))
       have HP8:Hid (∀ k,k < p.length -> (Q0l p k).length <= 4096):=Lib.hid (by rw [<- hp0]; exact Y5m HV.out cN)
       obtain ⟨ux,rfl,hr⟩:=hp;obtain ⟨R,capr,rfl,-,-,-⟩:=hr.opened;obtain ⟨NR,hNR⟩:∃ z,p.length = z:=⟨_,rfl⟩;have HRN:Hid (p.length = NR /\ NR <= 4096):=Lib.hid ⟨hNR,by have:=Q7l HV.out; rw [<- hNR,<- hp0,X4b]; omega⟩
       rw [hNR] at hr ⊢;clear hNR hu hp0 hcd;have FQ:=Lib.hid hr;clear hr;have hxp:=Ext.box z3 (.cells #[.slice R NR capr] 60);have hbp:=Blk.made z3 60 #[.slice R NR capr];replace HXA:=Lib.hid (HXA.out.trans hxp);replace H2:=Lib.hid (H2.out.ext hxp);replace KB:=Lib.hid (KB.out.ext hxp);replace FQ:=Lib.hid (FQ.out.ext hxp);go_upto_region 4 with fail;obtain ⟨gr,hgr⟩:∃ z,z3.heap.size = z:=⟨_,rfl⟩;obtain ⟨z4,hwt⟩:∃ Z,z3.alloc (.cells #[.slice R NR capr] 60) = Z:=⟨_,rfl⟩;rw [hwt,hgr] at hbp;rw [hwt] at HXA H2 KB FQ;rw [hwt,hgr];have KR:=Lib.hid hbp;clear hbp hwt hgr hxp;go_upto_region 5 with fail;have hxp:=Ext.box z4 (.cells #[.slice none 0 0] 64);have k2:=Blk.made z4 64 #[.slice none 0 0];have hsz:=World.size_alloc z4 (.cells #[.slice none 0 0] 64);obtain ⟨gp,hgp⟩:∃ z,z4.heap.size = z:=⟨_,rfl⟩;obtain ⟨zC,hzC⟩:∃ z,z4.alloc (.cells #[.slice none 0 0] 64) = z:=⟨_,rfl⟩;rw [hzC,hgp] at k2 hsz;rw [hzC] at hxp ⊢;rw [hgp];have HGP:=Lib.hid hgp;have HXP:=Lib.hid hxp;have KR2:=Lib.hid (KR.out.ext hxp);have c0:=KR2.out.cell 0;simp only [Go.Tw.gA,Go.Tw.gB] at c0;obtain ⟨R9,c9,h9,-,-,hcR⟩:=FQ.out.opened;rw [HRN.out.1] at h9 hcR;injection h9 with k1 k2x k3;subst k1 k3;have HCR:=Lib.hid hcR;obtain ⟨i0,hi,hz0,hz1,hz2⟩:=info_parts Tryz.Y8x;obtain ⟨j0,hj,jz0,jz1,jz2⟩:=info_parts Tryz.info3;clear hzC hgp hxp hcR k2x;go_wp2;clear c0
       go_loopw [42] (fun iv wr=>∃ (k:Nat) (vo:Value) (qs:List (Value × Rul)),k <= NR /\ iv = .int .i64 k /\ Blk wr gp 64 #[vo] /\ Q1r wr (gp + 1) 67 2 Q4g vo qs /\ qs.map (·.2) = p.take k /\ RuR wr qs /\ Below gp zC wr /\ gp + 1 <= wr.heap.size) (fun iv _=>NR - (intOf iv).toNat)
       case atStart=>exact ⟨0,_,[],Nat.zero_le _,rfl,k2,Q1r.nil _ _ _ _ _,rfl,(fun q hq=>by simp at hq),Below.refl _ _,by omega⟩
       case round =>
        obtain ⟨k,vo,qs,hk,rfl,hbo,hown,hqs,hru,hlow,hsr⟩:=hrel;have hxr:Ext z4 wr:=Below.trans HXP.out (hlow.mono (by rw [HGP.out]; exact Nat.le_refl _))
        have hqk:qs.length = k:=by rw [<- List.length_map (f:=(·.2)),hqs,List.length_take,HRN.out.1]; omega
        have HQS:=Lib.hid hqs;have HLO:=Lib.hid hlow;have HRU:=Lib.hid hru;have HBO:=Lib.hid hbo;have HOW:=Lib.hid hown
        by_cases hlt:k < NR
        . skip
          have hkI:(k:Int) < NR:=by omega
          have HK:=Lib.hid hlt;have HWK:Hid (wrap64 ((k:Int) + 1) = (k:Int) + 1):=Lib.hid (by have:=HRN.out; unfold wrap64; omega)
          obtain ⟨b,off,x,hbb,hb,e0,e1,hi0⟩:=HCR.out k hlt;subst hbb;replace e0:=hxr.cell e0;replace e1:=hxr.cell e1;obtain ⟨X,capx,rfl,-,-,-⟩:=hi0.opened;have hl8:=HP8.out k (by rw [HRN.out.1]; exact hlt)
          have hpk:p.take (k + 1) = p.take k ++ [⟨Q0l p k,Q3d p k⟩]:=by
           rw [List.take_succ_eq_append_getElem (by rw [HRN.out.1]; exact hlt),Q0l,Q3d,Q0r _ (by rw [HRN.out.1]; exact hlt)]
          have HI:=Lib.hid (hi0.ext hxr);obtain ⟨cs,hcs⟩:∃ c,Q0l p k = c:=⟨_,rfl⟩;obtain ⟨cb,hcb⟩:∃ c,Q3d p k = c:=⟨_,rfl⟩;rw [hcs] at e0 HI hl8 hpk;rw [hcb] at e1 hpk;have HPK:=Lib.hid hpk;have hqn:qs.length <= 4096:=by have:=HRN.out.2; omega
          obtain ⟨nc,hnc⟩:∃ z,cs.length = z:=⟨_,rfl⟩;rw [hnc] at e0 HI;have HNC:=Lib.hid hnc;clear hqs hru hlow hi0 hpk hcs hcb hbo hown hb hxr hk hlt;go_upto_region 8 with fail;clear e0 e1;have hxb:=Ext.box wr (.cells #[.slice X nc capx,.bool cb] 66);have hkb:=Blk.made wr 66 #[.slice X nc capx,.bool cb];obtain ⟨gl,hgl⟩:∃ z,wr.heap.size = z:=⟨_,rfl⟩;obtain ⟨wq,hwq⟩:∃ z,wr.alloc (.cells #[.slice X nc capx,.bool cb] 66) = z:=⟨_,rfl⟩;rw [hwq,hgl] at hkb;rw [hwq] at hxb ⊢;rw [hgl];have KL:=Lib.hid hkb;have HXB:=Lib.hid hxb;replace HBO:=Lib.hid (HBO.out.ext hxb);replace HOW:=Lib.hid (Q1r.below HOW.out hxb);replace HRU:=Lib.hid (HRU.out.ext hxb);replace HI:=Lib.hid (HI.out.ext hxb);have hsr2:gp + 1 <= wq.heap.size:=Nat.le_trans hsr hxb.size;replace HLO:=Lib.hid (Below.trans HLO.out (hxb.mono (by omega)))
          have hdr:=(Ext.refl wq).drew;clear hwq hxb hkb hgl;refine Flow.Q4k [.p,.w,.w,.p,.w,.w,.p,.w,.p,.w,.last,.last,.last] [0,1,2,3,4,5,6,7,8,9,10,11,12] [[],[0],[],[],[3],[2,3,4],[],[6],[2,3,4,5,6,7],[2,3,4,5,6,7,8],[0,1,2,3,4,5,6,7,8,9],[0,1,2,3,4,5,6,7,8,9,10],[0,1,2,3,4,5,6,7,8,9,10,11]] [10,11,12]
           [.c 0 (.pointer (some ⟨gp,0,none⟩)),.c 1 (vo),⟨fun v wz=>Q0p wz (v 2) wq.heap.size 3,fun _ _ _ hx h=>h.ext hx⟩,.c 3 (.pointer (some ⟨gl,0,none⟩)),.c 4 (.slice X nc capx),⟨fun v wz=>(fun v w'=>Q0g w' 0 3 (.int .i64) (v 5) cs) v wz,by intro v a b hx h; exact Q0g.below h hx⟩,.c 6 (.pointer (some ⟨gl,1,none⟩)),.c 7 (.bool cb),⟨fun v wz=>(fun v w'=>v 8 = .agg #[v 5,.bool cb]) v wz,by intro _ _ _ _ h; exact h⟩,⟨fun v wz=>(fun v w'=>∃ g,v 9 = .slice (some ⟨g,0,none⟩) 1 1 /\ Blk w' g 67 (Q4g (v 5,⟨cs,cb⟩)).toArray) v wz,by rintro v a b hx ⟨g,h1,h2⟩; exact ⟨g,h1,h2.ext hx⟩⟩,.none,.none,.none]
           [fun v w1 w'=>Q1r w' (gp + 1) 67 2 Q4g (v 10) (qs ++ [(v 5,⟨cs,cb⟩)]) /\ w1.grownBy w' vo.ownBlock,fun v w1 w'=>v 11 = .pointer (some ⟨gp,0,none⟩) /\ Q1r w' (gp + 1) 67 2 Q4g (v 10) (qs ++ [(v 5,⟨cs,cb⟩)]) /\ w1.grownBy w' vo.ownBlock,fun v w1 w'=>∃ x wm,Q1r wm (gp + 1) 67 2 Q4g x (qs ++ [(v 5,⟨cs,cb⟩)]) /\ w1.grownBy wm vo.ownBlock /\ w' = wm.setCell ⟨gp,0,none⟩ x] (by kernel_rfl) rfl (by kernel_rfl) ⟨?g0,?g1,?g2,?g3,?g4,?g5,?g6,?g7,?g8,?g9,?g10,?g11,?g12,trivial⟩ ?post
          case g0 | g3 | g6=>
           intro v w1 hx;intro bb hbb;subst hbb;refine ⟨_,fun w=>?_,rfl⟩;go_simp
          case g1 | g4 | g7=>
           intro v w1 hx;(repeat intro (zq:v _ = _));intro bb hbb;subst hbb;have n0:w1.cell? ⟨gp,0,none⟩ = some vo:=(HBO.out.ext (hdr.trans hx)).cell 0;have n1:w1.cell? ⟨gl,0,none⟩ = some (.slice X nc capx):=(KL.out.ext (hdr.trans hx)).cell 0;have n2:w1.cell? ⟨gl,1,none⟩ = some (.bool cb):=(KL.out.ext (hdr.trans hx)).cell 1;intro K hK;go_simp;exact hK _ _ (Ext.refl _) rfl
          case g2=>
           intro v w1 hx;intro bb hbb;subst hbb;intro K hK;go_simp;exact hK _ _ (Ext.box _ _) (Q0p.made _ _ _ (hdr.trans hx).size)
          case g5=>
           intro v w1 hx (q2:Q0p w1 (v 2) wq.heap.size 3) (q3:v 3 = _) (q4:v 4 = _);intro bb hbb;intro K hK;have o1:bb.eval (.tmp 48) = v 2:=by rw [hbb]; dsimp only; (try simp (discharger:=decide) only [eval_put_ne]); rw [Q0a (by simp only [size_put]; exact (by decide:48 < 200))]
           have o2:bb.eval (.tmp 50) = .slice X nc capx:=by rw [hbb]; dsimp only; (try simp (discharger:=decide) only [eval_put_ne]); rw [Q0a (by simp only [size_put]; exact (by decide:50 < 200))]; exact q4
           exact Q1f (.tmp 48) (.tmp 50) 44 rfl wq.heap.size 3 j0 (.int .i64 0) 8 Tryz.underlying44 hj jz0 jz1 jz2 rfl (Value.int .i64) (v 2) (.slice X nc capx) cs o1 q2 o2 (Q9r (HI.out.ext (hdr.trans hx))) (fun _ _=>rfl) (by omega) (by decide) (hdr.trans hx).size (fun v' w' hown hx2=>hK _ _ hx2 (Q0g.weaken hown (Nat.zero_le _)))
          case g8=>
           intro v w1 hx _ (q3:v 3 = _) (q4:v 4 = _) (q5:(fun v w'=>Q0g w' 0 3 (.int .i64) (v 5) cs) v w1) (q6:v 6 = _) (q7:v 7 = _);intro bb hbb;obtain ⟨s9,c9,e9,_⟩:=Q0g.shape q5;have o1:bb.eval (.tmp 51) = v 5:=by rw [hbb]; dsimp only; (try simp (discharger:=decide) only [eval_put_ne]); rw [Q0a (by simp only [size_put]; exact (by decide:51 < 200))]
           have o2:bb.eval (.tmp 53) = .bool cb:=by rw [hbb]; dsimp only; (try simp (discharger:=decide) only [eval_put_ne]); rw [Q0a (by simp only [size_put]; exact (by decide:53 < 200))]; exact q7
           rw [e9] at o1;exact ⟨_,fun w=>X0g _ (.tmp 51) (.tmp 53) rfl o1 o2 (fun w=>X9e w _ _ _ _),by show Value.agg #[.slice s9 cs.length c9,.bool cb] = Value.agg #[v 5,.bool cb]; rw [e9]⟩
          case g9=>
           intro v w1 hx _ (q3:v 3 = _) (q4:v 4 = _) (q5:(fun v w'=>Q0g w' 0 3 (.int .i64) (v 5) cs) v w1) (q6:v 6 = _) (q7:v 7 = _) (q8:(fun v w'=>v 8 = .agg #[v 5,.bool cb]) v w1);intro bb hbb;intro K hK;obtain ⟨s9,c9,e9,_⟩:=Q0g.shape q5;have o1:bb.eval (.tmp 54) = .agg #[v 5,.bool cb]:=by rw [hbb]; dsimp only; (try simp (discharger:=decide) only [eval_put_ne]); rw [Q0a (by simp only [size_put]; exact (by decide:54 < 200))]; exact q8
           rw [e9] at o1;have hbl:Blk (w1.alloc (.cells (Value.agg #[.slice s9 cs.length c9,.bool cb]).cells 67)) w1.heap.size 67 (Q4g (v 5,⟨cs,cb⟩)).toArray:=by rw [e9]; exact Blk.made _ _ _
           exact Q4a 62 67 (.tmp 54) rfl o1 (Y8p w1 _ _ _ _) (hK _ _ (Ext.box _ _) ⟨_,rfl,hbl⟩)
          case g10=>
           intro v w1 hx (q0:v 0 = _) (q1:v 1 = _) _ (q3:v 3 = _) (q4:v 4 = _) (q5:(fun v w'=>Q0g w' 0 3 (.int .i64) (v 5) cs) v w1) (q6:v 6 = _) (q7:v 7 = _) _ (q9:(fun v w'=>∃ g,v 9 = .slice (some ⟨g,0,none⟩) 1 1 /\ Blk w' g 67 (Q4g (v 5,⟨cs,cb⟩)).toArray) v w1);intro wl hT;obtain rfl:wl = w1:=hT;intro bb hbb;intro K hK;obtain ⟨g,hg10,hb10⟩:=q9;have o1:bb.eval (.tmp 47) = vo:=by rw [hbb]; dsimp only; (try simp (discharger:=decide) only [eval_put_ne]); rw [Q0a (by simp only [size_put]; exact (by decide:47 < 200))]; exact q1
           have o2:bb.eval (.tmp 55) = .slice (some ⟨g,0,none⟩) 1 1:=by rw [hbb]; dsimp only; (try simp (discharger:=decide) only [eval_put_ne]); rw [Q0a (by simp only [size_put]; exact (by decide:55 < 200))]; exact hg10
           have hxx:=hdr.trans hx;exact Q6h _ _ 62 rfl (gp + 1) 67 i0 (.agg #[.slice none 0 0,.bool false]) 2 32 Tryz.underlying62 hi hz0 hz1 hz2 rfl (by decide) Q4g Q3g vo _ (v 5,⟨cs,cb⟩) o1 (HOW.out.below hxx) ⟨g,0,none⟩ 1 o2 (X2w hb10) (Y4q (q:=(v 5,⟨cs,cb⟩)) q5) (by omega) (by decide) (by have:=hxx.size; omega) (fun v' w' h1 h2=>hK _ _ ⟨h1,h2⟩)
          case g11=>
           intro v w1 hx (q0:v 0 = _) (q1:v 1 = _) _ (q3:v 3 = _) (q4:v 4 = _) _ (q6:v 6 = _) (q7:v 7 = _) _ _;intro wl hT;replace hT:(fun v w1 w'=>Q1r w' (gp + 1) 67 2 Q4g (v 10) (qs ++ [(v 5,⟨cs,cb⟩)]) /\ w1.grownBy w' vo.ownBlock) v w1 wl:=hT;intro bb hbb;subst hbb;intro K hK;go_simp;exact hK _ _ ⟨rfl,hT⟩
          case g12=>
           intro v w1 hx (q0:v 0 = _) (q1:v 1 = _) _ (q3:v 3 = _) (q4:v 4 = _) _ (q6:v 6 = _) (q7:v 7 = _) _ _;intro wl hT;replace hT:(fun v w1 w'=>v 11 = .pointer (some ⟨gp,0,none⟩) /\ Q1r w' (gp + 1) 67 2 Q4g (v 10) (qs ++ [(v 5,⟨cs,cb⟩)]) /\ w1.grownBy w' vo.ownBlock) v w1 wl:=hT;intro bb hbb;intro K hK;obtain ⟨hT0,hT1,hT2⟩:=hT;have hxx:=hdr.trans hx;obtain ⟨bp,cp,hsh,_⟩:=hT1.shape;have o1:bb.eval (.tmp 57) = .pointer (some ⟨gp,0,none⟩):=by rw [hbb]; dsimp only; (try simp (discharger:=decide) only [eval_put_ne]); rw [Q0a (by simp only [size_put]; exact (by decide:57 < 200))]; exact hT0
           have o2:bb.eval (.tmp 56) = v 10:=by rw [hbb]; dsimp only; (try simp (discharger:=decide) only [eval_put_ne]); rw [Q0a (by simp only [size_put]; exact (by decide:56 < 200))]
           have hbl:=Go.Tw.Q3m (HBO.out.ext hxx) (HOW.out.below hxx) (by omega) hT2
           exact Q5b _ _ rfl Tryz.Z3o (g:=gp) (k:=0) o1 o2 (by rw [hsh]; rfl) (by rw [hsh]; rfl) hbl (by show 0 < 1; omega) (fun v'=>hK _ _ ⟨v 10,wl,hT1,hT2,rfl⟩)
          case post =>
           intro v w1 hx;(iterate 2 intro (zq:v _ = _));intro (q2:Q0p w1 (v 2) wq.heap.size 3);(iterate 2 intro (zq:v _ = _));intro (q5:(fun v w'=>Q0g w' 0 3 (.int .i64) (v 5) cs) v w1);(iterate 2 intro (zq:v _ = _));intro (q8:(fun v w'=>v 8 = .agg #[v 5,.bool cb]) v w1) (q9:(fun v w'=>∃ g,v 9 = .slice (some ⟨g,0,none⟩) 1 1 /\ Blk w' g 67 (Q4g (v 5,⟨cs,cb⟩)).toArray) v w1);intro w2 hE;replace hE:(fun v w1 w'=>∃ x wm,Q1r wm (gp + 1) 67 2 Q4g x (qs ++ [(v 5,⟨cs,cb⟩)]) /\ w1.grownBy wm vo.ownBlock /\ w' = wm.setCell ⟨gp,0,none⟩ x) v w1 w2:=hE;simp only [Flow.acts,Act.put];go_simp;obtain ⟨x,wm,hom,hgm,rfl⟩:=hE;have hxx:=hdr.trans hx;have howx:=HOW.out.below hxx;have hbm:=Go.Tw.Q3m (HBO.out.ext hxx) howx (by omega) hgm
           have HO6:=Lib.hid (hom.X2x (p:=⟨gp,0,none⟩) (Nat.lt_succ_self gp) x);have HB6:=Lib.hid (hbm.set 0 x);have hxm:Below gp zC wm:=Below.trans HLO.out (Below.grown (hxx.mono (by omega)) hgm (by have:=hxx.size; omega) (fun j hj=>by have:=(howx.lt j hj).1; omega))
           have HX6:=Lib.hid (hxm.setCell (p:=⟨gp,0,none⟩) (Nat.le_refl _) x);have HR6:=Lib.hid ((((HRU.out.ext hxx).snoc (q:=(v 5,⟨cs,cb⟩)) q5).grown howx (by decide) hgm).set (k:=0) (u:=x) hbm (by decide))
           have HS6:Hid (gp + 1 <= (wm.setCell ⟨gp,0,none⟩ x).heap.size):=Lib.hid (by have:=hbm.lt; simp; omega)
           obtain ⟨w6,hw6⟩:∃ y,wm.setCell ⟨gp,0,none⟩ x = y:=⟨_,rfl⟩;rw [hw6] at HO6 HB6 HX6 HR6 HS6 ⊢;clear hw6 hom hgm hxx hx hbm hxm howx hdr q2 q5 q8 q9;(repeat clear zq);go_wp2;go_roundw
           case rel=>exact ⟨k + 1,x,qs ++ [(v 5,⟨cs,cb⟩)],by have:=HK.out; omega,by (try rw [HWK.out]); go_num,HB6.out,HO6.out,by rw [List.map_append,HQS.out,HPK.out]; rfl,HR6.out,HX6.out,HS6.out⟩
           case measure=>have:=HK.out; (try rw [HWK.out]); simp [intOf]; omega
        . skip
          obtain rfl:k = NR:=by omega
          have hkI:¬ (k:Int) < (k:Int):=by omega
          rw [List.take_of_length_le (by rw [HRN.out.1]; exact Nat.le_refl _)] at hqs
          obtain ⟨Xf,cf,rfl,hff⟩:=X6i hown hqk hqs HRN.out.2 (fun q hq=>by
           have hqp:q.2 ∈ p:=by rw [<- hqs]; exact List.mem_map_of_mem hq
           obtain ⟨j,hj,hje⟩:=List.getElem_of_mem hqp;have h8:=HP8.out j hj;rw [Q0l,Q0r _ hj,hje] at h8;exact (hru q hq).ints (by omega))
          have FF:=Lib.hid hff;have KF:=Lib.hid hbo;replace HXA:=Lib.hid (HXA.out.trans hxr);replace H2:=Lib.hid (H2.out.ext hxr);replace KB:=Lib.hid (KB.out.ext hxr);obtain ⟨zE,rfl⟩:∃ Z,Z = wr:=⟨_,rfl⟩;clear hff hbo hown hqs hru hlow hsr hxr hk hlt HQS HLO HRU HBO HOW KR KR2 HCR FQ HXP hqk k2 hsz hi hz0 hz1 hz2 hj jz0 jz1 jz2;go_upto_if 43 with fail
          repeat (first | exact Z6b HXA H2 KB KF FF HSEA HS HE HT HM HLIM HRE HRN _ rfl rfl rfl | go_step)
   . skip
     go_wp2_with fail;refine (Q4b _).mono ?_;rintro e z3 ⟨rfl,hx⟩;have hxx:Ext z2 z3:=hx;replace HXA:=Lib.hid (HXA.out.trans hxx);replace H2:=Lib.hid (H2.out.ext hxx);replace KB:=Lib.hid (KB.out.ext hxx);clear hx hxx;go_wp2;go_ret;exact ⟨rfl,HXA.out⟩
end Go.Proofs
namespace Go.Proofs.YtodinjclfmiohaaGreat
open Go.ChangeShapes Go.WideShapes Go.ChangeAt Go.RowKit Go.Tw
theorem Q7q (os:Os) (started:os.Started) (H:Type) (enc:TypeId × Value -> H) :
    ReturnsInHanded {} Tryz.checked os 4 .any (Rows.topKeelPlayedSpec.pre6 enc Tryz.prog Tryz.f4 Rows.topKeelPlayedRow.domain false)
     (Rows.topKeelPlayedSpec.post enc Tryz.prog Tryz.f4 false true false false):=by
 refine Z2m (C:=Tryz.checked) own started (by kernel_rfl) Tryz.func4
  (ChangeSpec.witness6 (enc:=enc) (C:=Tryz.checked) false ⟨#[],#[.agg #[.int .i64 0,.slice none 0 0,.slice none 0 0],.int .i64 0],[]⟩ 8 (by kernel_rfl) (by kernel_rfl) (by kernel_rfl) (by kernel_rfl)) ?_
 intro W base args ds gs before hval0 hW hsz0;have hval:∀ (j:Nat) t v,Tryz.f4.params[j]? = some t -> args[j]? = some v -> Value.okWide Tryz.prog W .any base t v:=hval0;have hsz:(DataW.weightsEach Tryz.prog (Tryz.f4.params.toList ++ Rows.topKeelPlayedSpec.plain.varTypes Tryz.prog) (ds ++ gs)).all (· <= reachBytes) = true:=hsz0;have hW':=hW;obtain ⟨p,q,hA0,hV,rfl,hfz,hnd⟩:=hW;have hA:DataW.TrodAll enc Tryz.prog W 0 (fun _=>true) true Tryz.f4.params.toList args.toList ds p:=hA0;rw [Tryz.params4] at hA hval hsz;obtain ⟨v0,vs0,d0,ds0,p0,q0,hargs,rfl,rfl,h0,r0⟩:=trodAll_cons hA;obtain ⟨v1,vs1,d1,ds1,p1,q1,rfl,rfl,rfl,h1,r1⟩:=trodAll_cons r0;obtain ⟨rfl,rfl,rfl⟩:=trodAll_nil r1;obtain rfl:args = #[v0,v1]:=by cases args; simp_all
 obtain ⟨rfl,rfl⟩:=trodVars_none hV;have hfit:∀ x ∈ DataW.weightsEach Tryz.prog [55,3] [d0,d1],x <= 140737488351232:=fun x hx=>by
  have:=List.all_eq_true.1 (show (DataW.weightsEach Tryz.prog [55,3] [d0,d1]).all (· <= reachBytes) = true from hsz) x hx
  exact Nat.le_trans (of_decide_eq_true this) (by decide)
 obtain ⟨f0,g0⟩:=Q3c hfit;obtain ⟨f1,g1⟩:=Q3c g0;have k0:=h0;have lt0:∀ x ∈ p0,x.block < W.heap.size:=by obtain ⟨m,hm⟩:=k0; exact DataW.trod_lt m _ _ _ hm
 obtain ⟨t0,HI0⟩:=X5k (hval 0 55 v0 rfl rfl) h0 f0;have k1:=h1;have lt1:∀ x ∈ p1,x.block < W.heap.size:=by obtain ⟨m,hm⟩:=k1; exact DataW.trod_lt m _ _ _ hm
 obtain ⟨z1,rfl,rfl,rfl,wz1⟩:=open_int Tryz.underlying3 (hval 1 3 v1 rfl rfl) h1;have hcall:Calls Tryz.prog 4 #[v0,.int .i64 z1] W fun e W'=>e = .returned (.bool true) /\ Ext W W':=by
  have hz1:z1 < 2 ^ 63:=by have h:=wz1; unfold Lit.wf at h; rw [Bool.and_eq_true,decide_eq_true_eq,decide_eq_true_eq] at h; have h2:IntKind.max .i64 = 9223372036854775807:=(by decide); rw [h2] at h; omega
  exact X0e _ _ _ _ HI0 hz1
 clear hA0 hval0 hsz0;refine hcall.mono fun e W' ⟨he,bel⟩=>?_;subst he;exact ⟨_,rfl,_,_,_,[],_,[],hW',trodAll_mk1 (shut_bool Tryz.underlying4 _),(trodAll_cons_mk (Below.trod laidOut (by kernel_rfl) (of_decide_eq_true (by kernel_rfl)) k0 bel lt0) (trodAll_cons_mk (shut_int Tryz.underlying3 wz1) trodAll_mk0)),rfl,bel.frame _,fun h=>by cases h⟩
theorem Q8h:Tryz.pinned.checked.prog.funcNamed Rows.topKeelPlayedRow.func = some 4:=by kernel_rfl
theorem Q6p:Tryz.f4.isInstance Tryz.pinned.checked.prog Rows.topKeelPlayedRow.origin Rows.topKeelPlayedRow.targs:=of_decide_eq_true (by kernel_rfl)
theorem X2m:(Rows.topKeelPlayedRow.wf (OpenSpec.ofChange Rows.topKeelPlayedSpec):Bool) = true:=by kernel_rfl
theorem X2l:(Tryz.f4.params.all (Tryz.prog.readableRec ·):Bool) = true:=by kernel_rfl
theorem X2n:(namedTie Tryz.prog Rows.topKeelPlayedRow.named Rows.topKeelPlayedSpec.vars:Bool) = true:=by kernel_rfl
theorem X2h:((Rows.topKeelPlayedRow.stops == []):Bool) = true:=by kernel_rfl
theorem X2p:((Rows.topKeelPlayedRow.knobs == []):Bool) = true:=by kernel_rfl
theorem X2j:((Rows.topKeelPlayedRow.inPlace == Tryz.prog.inPlace 4):Bool) = true:=by kernel_rfl
theorem X1g:((Rows.topKeelPlayedRow.unfollowed == Tryz.prog.unfollowed 4):Bool) = true:=by kernel_rfl
theorem X1n:((Rows.topKeelPlayedRow.recurses == Tryz.prog.recurses 4):Bool) = true:=by kernel_rfl
theorem X0o:((Rows.topKeelPlayedRow.named == Tryz.prog.varsNamed 4):Bool) = true:=by kernel_rfl
theorem X0q:((Rows.topKeelPlayedRow.maps == (Tryz.f4.params.toList ++ Rows.topKeelPlayedSpec.plain.varTypes Tryz.prog).any (Tryz.prog.mapsRec ·)):Bool) = true:=by kernel_rfl
theorem X0a:((Rows.topKeelPlayedRow.ifaces == (Tryz.f4.params.toList ++ Rows.topKeelPlayedSpec.plain.varTypes Tryz.prog).any (Tryz.prog.ifacesRec ·)):Bool) = true:=by kernel_rfl
theorem X0k:((Rows.topKeelPlayedRow.mapsOut == Tryz.prog.mapsAmong Tryz.f4.resultTypes.toList):Bool) = true:=by kernel_rfl
theorem X1a:((Rows.topKeelPlayedRow.loops == (Tryz.f4.params.toList ++ Rows.topKeelPlayedSpec.plain.varTypes Tryz.prog).any (Tryz.prog.loopsFrom ·)):Bool) = true:=by kernel_rfl
theorem X0w:((Rows.topKeelPlayedRow.wideKeys == (Tryz.f4.params.toList ++ Rows.topKeelPlayedSpec.plain.varTypes Tryz.prog ++ Tryz.f4.resultTypes.toList).any (Tryz.prog.wideKeysFrom ·)):Bool) = true:=by kernel_rfl
theorem X1c:(Rows.topKeelPlayedSpec.vars.all (Tryz.prog.varReadable ·):Bool) = true:=by kernel_rfl
theorem X1h:(Tryz.f4.resultTypes.all (fun t=>Tryz.prog.readableRec t && decide (t < Tryz.prog.types.size)):Bool) = true:=by kernel_rfl
theorem Q9z:((Rows.topKeelPlayedRow.ifacesOut == Tryz.f4.resultTypes.toList.any (Tryz.prog.ifacesRec ·)):Bool) = true:=by kernel_rfl
theorem X0t:((Rows.topKeelPlayedRow.loopsOut == Tryz.f4.resultTypes.toList.any (Tryz.prog.loopsFrom ·)):Bool) = true:=by kernel_rfl
theorem X0m:((Rows.topKeelPlayedRow.plainKeys == Tryz.prog.plainKeys):Bool) = true:=by kernel_rfl
theorem X1d:(Rows.topKeelPlayedRow.shortTexts.isNone:Bool) = true:=by kernel_rfl
theorem Q9y:((Rows.topKeelPlayedRow.lifted == Tryz.prog.liftsFinal):Bool) = true:=by kernel_rfl
theorem X0l:((Tryz.prog.make == some Rows.topKeelPlayedRow.make):Bool) = true:=by kernel_rfl
theorem X0b:(Rows.topKeelPlayedRow.domain.isEmpty && (Rows.topKeelPlayedRow.kinds == []):Bool) = true:=by kernel_rfl
theorem X1f:((Rows.topKeelPlayedRow.pinned == Rows.topKeelPlayedRow.pinnedBy):Bool) = true:=by kernel_rfl
theorem Q9v:((Rows.topKeelPlayedRow.veiled == (Tryz.f4.params.toList ++ Rows.topKeelPlayedSpec.plain.varTypes Tryz.prog ++ Tryz.f4.resultTypes.toList).any (Tryz.prog.veiledRec ·)):Bool) = true:=by kernel_rfl
theorem X0j:(Rows.topKeelPlayedRow.veiledFits Tryz.prog Tryz.f4.params.toList (Tryz.f4.params.toList ++ Rows.topKeelPlayedSpec.plain.varTypes Tryz.prog ++ Tryz.f4.resultTypes.toList):Bool) = true:=by kernel_rfl
theorem Q7r:joinedFacts Tryz.pinned.checked.prog 4 Tryz.f4 Rows.topKeelPlayedSpec Rows.topKeelPlayedRow = true :=
 Y6o Tryz.prog 4 Tryz.f4 Rows.topKeelPlayedSpec Rows.topKeelPlayedRow X2m Z3m Z3g X2l X2n X2h Z2x X2p Z3s X2j X1g X1n X0o X0q X0a X0k X1a X0w X1c X1h Q9z X0t X0m X1d Z0e Y9v Q9y X0l X0b X1f Q9v X0j
theorem topKeelPlayed_holds:Rows.TopKeelPlayedSaid :=
 OpenClaim.holds_of_wide 4 Tryz.f4 rfl rfl rfl rfl rfl rfl rfl ⟨rfl,rfl,rfl,rfl,rfl⟩ rfl rfl rfl rfl rfl Q8h Tryz.func4 Q7r
  Q6p (by unfold Func.isWrapper; first | (rw [if_pos (by decide +kernel)]; kernel_rfl) | (rw [if_neg (by decide +kernel)]; exact ⟨rfl,rfl⟩))
  (fun os started H enc _=>Q7q os started H enc)
#print axioms topKeelPlayed_holds
end Go.Proofs.YtodinjclfmiohaaGreat
