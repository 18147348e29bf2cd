/- Contracts: Q3w; Index and Contains over plans (of the program). Contracts: ContainsFunc and DeleteFunc over plans. The region theorem under a relation of worlds of one's own. -/
import Derived.Test.YthnobngcipaljaaGreatDoorPp16
import Derived.Test.YthnobngcipaljaaGreatDoorPp13
import Derived.Test.YthnobngcipaljaaGreatDoorPp09
import Derived.Test.YthnobngcipaljaaGreatDoorPp14
import Derived.Shelf.Abstract
import Derived.Test.YthnobngcipaljaaGreatDoorPp06
set_option maxRecDepth 1000000
set_option maxHeartbeats 64000000
set_option linter.unusedVariables false
set_option linter.unusedSimpArgs false
set_option linter.constructorNameAsVariable false
open Go.Lib (hid)
namespace Go.Tw
open Go.RowKit
abbrev PV:=Plan × Value
def Q2f (q:PV):List Value:=[.int .i64 q.1.weight,.int .i64 q.1.closings,.int .i64 q.1.delay,q.2]
theorem Q3h (q:PV):(Q2f q).length=4:=rfl
def Z0x (x:Plan) (c:Value):Value:=.agg #[.int .i64 x.weight,.int .i64 x.closings,.int .i64 x.delay,c]
end Go.Tw
namespace Go.Proofs
open Go.RowKit Go.Tw Go.Flow
attribute [local go_sem] Oper.semAt_some
theorem Tryz.Z9h (w:World):(isAgg 159).run Tryz.prog w=.ok true w:=by kernel_rfl
theorem Tryz.X5w (w:World):(sizeOf 159).run Tryz.prog w=.ok 4 w:=by kernel_rfl
def Q0j (w:World) (ps:List PV):Prop:=∀ q ∈ ps,Q0q w 0 9 .string q.2 q.1.closed
theorem Q0j.nil (w:World):Q0j w []:=fun _ hq=>by simp at hq
theorem Q0j.ext {w w':World} {ps:List PV} (h:Q0j w ps) (hx:Ext w w'):Q0j w' ps:=fun q hq=>(h q hq).below hx
theorem Q0j.snoc {w:World} {ps:List PV} {q:PV} (h:Q0j w ps) (hq:Q0q w 0 9 .string q.2 q.1.closed):Q0j w (ps ++ [q]):=fun z hz=>by
 rcases List.mem_append.1 hz with hz | hz
 . exact h z hz
 . rw [List.mem_singleton.1 hz]; exact hq
theorem Q0j.sub {w:World} {ps qs:List PV} (h:Q0j w ps) (hs:∀ q ∈ qs,q ∈ ps):Q0j w qs:=fun q hq=>h q (hs q hq)
theorem Q0j.shape {w:World} {ps:List PV} (h:Q0j w ps) {q:PV} (hq:q ∈ ps):∃ A n c,q.2=.slice A n c:=by
 obtain ⟨A,c,he,_⟩:=(h q hq).shape;exact ⟨A,_,c,he⟩
theorem Y6z {w:World} {ps:List PV} (h:Q0j w ps) {q:PV} (hq:q ∈ ps):∀ u ∈ Q2f q,u.oneCell'=true:=by
 obtain ⟨A,n,c,he⟩:=h.shape hq;intro u hu;simp only [Q2f,List.mem_cons,List.not_mem_nil,or_false] at hu
 rcases hu with rfl | rfl | rfl | rfl
 . rfl
 . rfl
 . rfl
 . rw [he]; rfl
theorem OwnP.cases {w:World} {B:Nat} {v:Value} {ps:List PV} (h:Q0z w B 159 4 Q2f v ps) :
    (v=.slice none 0 0 /\ ps=[]) ∨ ∃ g cap cur,v=.slice (some ⟨g,0,none⟩) ps.length cap /\ B <= g /\ Blk w g 159 cur /\ ps.length <= cap /\ cap <= maxLen /\ cur.size=cap * 4 /\ cur.toList.take (ps.length * 4)=ps.flatMap Q2f:=by
 obtain ⟨h1,h2⟩:=h
 rcases h2 with ⟨rfl,h0⟩ | ⟨g,cap,cur,rfl,hbg,hg,hcap,hmax,hsz,ht⟩
 . exact .inl ⟨rfl,List.length_eq_zero_iff.1 h0⟩
 . exact .inr ⟨g,cap,cur,rfl,hbg,hg,hcap,hmax,hsz,ht⟩
theorem X0w {w:World} {g:Nat} {T:TypeId} {cur:Array Value} {ps:List PV} (hb:Blk w g T cur) (ht:cur.toList.take (ps.length * 4)=ps.flatMap Q2f) {j i:Nat} (hj:j < ps.length) (hi:i < 4):w.cell? ⟨g,j * 4 + i,none⟩=(Q2f ps[j])[i]?:=by
 rw [hb.cell,<- flat_get Q3h ps j i hj hi,<- ht,List.getElem?_take,if_pos (by omega)]
 simp
theorem X8d (w:World) (x y:Plan) (A B:Option Addr) (n m c d:Nat) :
    Calls Tryz.prog 228 #[Z0x x (.slice A n c),Z0x y (.slice B m d)] w fun e w'=>e=.returned (.bool (x.Q3w y)) /\ Ext w w':=by
 obtain ⟨x1,x2,x3,x4⟩:=x;obtain ⟨y1,y2,y3,y4⟩:=y;unfold Z0x;dsimp only;have k0:=Blk.made w 159 #[.int .i64 x1,.int .i64 x2,.int .i64 x3,.slice A n c];have x0:=Ext.box w (.cells #[.int .i64 x1,.int .i64 x2,.int .i64 x3,.slice A n c] 159);have k1:=Blk.made (w.alloc (.cells #[.int .i64 x1,.int .i64 x2,.int .i64 x3,.slice A n c] 159)) 159 #[.int .i64 y1,.int .i64 y2,.int .i64 y3,.slice B m d];have xx:=Ext.box (w.alloc (.cells #[.int .i64 x1,.int .i64 x2,.int .i64 x3,.slice A n c] 159)) (.cells #[.int .i64 y1,.int .i64 y2,.int .i64 y3,.slice B m d] 159);have es:(w.alloc (.cells #[.int .i64 x1,.int .i64 x2,.int .i64 x3,.slice A n c] 159)).heap.size=w.heap.size + 1:=by simp
 rw [es] at k1;replace k0:=k0.ext xx;have c0:=(k0).cell 0;have c1:=(k0).cell 1;have c2:=(k0).cell 2;simp only [Go.Tw.gA,Go.Tw.gB,Go.Tw.gC] at c0 c1 c2;have d0:=(k1).cell 0;have d1:=(k1).cell 1;have d2:=(k1).cell 2;simp only [Go.Tw.gA,Go.Tw.gB,Go.Tw.gC] at d0 d1 d2;have HX:=hid (x0.trans xx);have HQ:Hid ((⟨x1,x2,x3,x4⟩:Plan).Q3w ⟨y1,y2,y3,y4⟩=(decide (y1 <= x1) && decide (x2 <= y2) && decide (x3 <= y3))):=hid rfl;clear k0 k1 x0 xx es;go_enter Tryz.func228,Tryz.ntmps228
 by_cases h1:y1 <= x1
 . by_cases h2:x2 <= y2
   . by_cases h3:x3 <= y3
     . have HR:Hid ((⟨x1,x2,x3,x4⟩:Plan).Q3w ⟨y1,y2,y3,y4⟩=true):=hid (by rw [HQ.out]; simp [h1,h2,h3])
       go_wp2;go_ret;exact ⟨Q0u HR.out.symm,HX.out⟩
     . have HR:Hid ((⟨x1,x2,x3,x4⟩:Plan).Q3w ⟨y1,y2,y3,y4⟩=false):=hid (by rw [HQ.out]; simp [h1,h2,h3])
       go_wp2;go_ret;exact ⟨Q0u HR.out.symm,HX.out⟩
   . have HR:Hid ((⟨x1,x2,x3,x4⟩:Plan).Q3w ⟨y1,y2,y3,y4⟩=false):=hid (by rw [HQ.out]; simp [h1,h2])
     go_wp2;go_ret;exact ⟨Q0u HR.out.symm,HX.out⟩
 . have HR:Hid ((⟨x1,x2,x3,x4⟩:Plan).Q3w ⟨y1,y2,y3,y4⟩=false):=hid (by rw [HQ.out]; simp [h1])
   go_wp2;go_ret;exact ⟨Q0u HR.out.symm,HX.out⟩
def X6v (g:Nat) (pre post:Array Value) (w:World) (t:Plan -> Bool):Prop :=
 ∀ W (y:Plan) (A:Option Addr) (n c:Nat),Ext w W -> Calls Tryz.prog g (pre ++ #[Z0x y (.slice A n c)] ++ post) W fun e W'=>e=.returned (.bool (t y)) /\ Ext W W'
theorem X5g (w:World) (B:Nat) (v:Value) (ps:List PV) (g:Nat) (pre post:Array Value) (t:Plan -> Bool) (hv:Q0z w B 159 4 Q2f v ps) (hc:Q0j w ps) (hl:ps.length <= 100000)
    (eg:∀ args w,(callFunc g args).run Tryz.prog w=.ok (.enter g args) w) (ht:X6v g pre post w t) :
    Calls Tryz.prog 247 #[v,.func (.func g) pre post] w fun e w'=>∃ r:Int,e=.returned (.int .i64 r) /\ ((r=-1 /\ ∀ q ∈ ps,t q.1=false) ∨ ∃ k:Nat,r=(k:Int) /\ ∃ q,ps[k]?=some q /\ t q.1=true /\ ∀ j q',j < k -> ps[j]?=some q' -> t q'.1=false) /\ Ext w w':=by
 have HC:=hid hc;have HT:=hid ht;obtain ⟨A,cv,hsh,HCELL⟩:∃ A cv,v=.slice A ps.length cv /\ Hid (∀ j (hj:j < ps.length),∃ gb,A=some ⟨gb,0,none⟩ /\ ∀ i,i < 4 -> w.cell? ⟨gb,j * 4 + i,none⟩=(Q2f ps[j])[i]?):=by
  rcases OwnP.cases hv with ⟨rfl,h0⟩ | ⟨gb,cap,cur,rfl,_,hb,_,_,_,htk⟩
  . exact ⟨none,0,by rw [h0]; rfl,hid (fun j hj=>by rw [h0] at hj; simp at hj)⟩
  . exact ⟨_,cap,rfl,hid (fun j hj=>⟨gb,rfl,fun i hi=>X0w hb htk hj hi⟩)⟩
 subst hsh;obtain ⟨L,hL⟩:∃ L,ps.length=L:=⟨_,rfl⟩;have HLL:=hid hL;rw [hL] at hl ⊢;clear hv hc ht hL;go_enter Tryz.func247,Tryz.ntmps247;go_wp2
 go_loopw [8] (fun i wr=>∃ k:Nat,k <= L /\ i=.int .i64 k /\ (∀ j (hj:j < ps.length),j < k -> t ps[j].1=false) /\ Ext w wr) (fun i _=>L - (intOf i).toNat)
 case atStart=>exact ⟨0,Nat.zero_le _,rfl,fun j _ h=>absurd h (Nat.not_lt_zero _),Ext.refl _⟩
 case round =>
  obtain ⟨k,hk,rfl,hno,hx⟩:=hrel;have HNO:=hid hno;have HX:=hid hx;clear hno
  by_cases hlt:k < L
  . have hkp:k < ps.length:=by rw [HLL.out]; exact hlt
    have hkI:(k:Int) < L:=by omega
    obtain ⟨gb,rfl,hcell⟩:=HCELL.out k hkp;have e0:=hx.cell (hcell 0 (by omega))
    have e1:=hx.cell (hcell 1 (by omega))
    have e2:=hx.cell (hcell 2 (by omega))
    have e3:=hx.cell (hcell 3 (by omega))
    obtain ⟨A4,n4,c4,hsl⟩:=HC.out.shape (List.getElem_mem hkp);have HTK:=hid (HT.out wr ps[k].1 A4 n4 c4 hx);have HKEY:Hid (∀ q,t ps[k].1=q -> t ps[k].1=q):=hid (fun _ h=>h);obtain ⟨q,hq⟩:∃ q,t ps[k].1=q:=⟨_,rfl⟩;have HQ:=hid hq;rw [hq] at HTK;have HPK:Hid (ps[k]?=some ps[k]):=hid (List.getElem?_eq_getElem hkp);obtain ⟨qk,hqk⟩:∃ z,ps[k]=z:=⟨_,rfl⟩;rw [hqk] at e0 e1 e2 e3 hsl HTK HQ HPK;obtain ⟨⟨x1,x2,x3,x4⟩,xv⟩:=qk;replace hsl:xv=.slice A4 n4 c4:=hsl;subst hsl;unfold Z0x at HTK;dsimp only at HTK;dsimp only at e0 e1 e2 e3;rw [Nat.add_zero] at e0;clear hkp hcell hq HKEY hqk hx;cases q with
    | true =>
      go_wp2_with (refine HTK.out.mono ?_; rintro e w9 ⟨rfl,hx9⟩);go_ret;exact ⟨k,rfl,.inr ⟨k,rfl,_,HPK.out,HQ.out,fun j q' hj hq'=>by
       obtain ⟨h,rfl⟩:=List.getElem?_eq_some_iff.1 hq';exact HNO.out j h hj⟩,HX.out.trans hx9⟩
    | false =>
      go_wp2_with (refine HTK.out.mono ?_; rintro e w9 ⟨rfl,hx9⟩);go_roundw
      case rel=>exact ⟨k + 1,by omega,by go_num,fun j h hj=>by
       by_cases hjk:j < k
       . exact HNO.out j h hjk
       . have:j=k:=by omega
         subst this;have h2:=HPK.out;rw [List.getElem?_eq_getElem h] at h2;injection h2 with h2;rw [h2]; exact HQ.out,HX.out.trans hx9⟩
      case measure=>simp [intOf]; omega
  . go_wp2
    go_ret;exact ⟨-1,rfl,.inl ⟨rfl,fun q hq=>by
     obtain ⟨j,hj,rfl⟩:=List.getElem_of_mem hq;exact HNO.out j hj (by have:=HLL.out; omega)⟩,HX.out⟩
end Go.Proofs
namespace Go.Tw
open Go.RowKit Go.Flow
theorem Y2d:∀ (l:List PV) (k:Nat),(l.flatMap Q2f).take (k * 4)=(l.take k).flatMap Q2f
 | [],k=>by simp
 | q :: l,0=>by simp
 | q :: l,k + 1=>by
   rw [List.flatMap_cons,List.take_succ_cons,List.flatMap_cons,<- Y2d l k,List.take_append,Q3h];rw [List.take_of_length_le (by rw [Q3h]; omega),show (k + 1) * 4 - 4=k * 4 by omega]
theorem Z2s (n:Nat):∀ v ∈ (Builtin.zeroCells (Value.agg #[.int .i64 0,.int .i64 0,.int .i64 0,.slice none 0 0]).cells n).toList,v.oneCell'=true:=by
 intro v hv;unfold Builtin.zeroCells at hv;rw [Array.toList_map,List.mem_map] at hv;obtain ⟨i,_,rfl⟩:=hv;have h4:i % 4=0 ∨ i % 4=1 ∨ i % 4=2 ∨ i % 4=3:=by omega
 show ((#[Value.int .i64 0,.int .i64 0,.int .i64 0,.slice none 0 0]:Array Value)[i % 4]!).oneCell'=true
 rcases h4 with h | h | h | h <;> rw [h] <;> rfl
theorem Z0e (n:Nat):(Builtin.zeroCells (Value.agg #[.int .i64 0,.int .i64 0,.int .i64 0,.slice none 0 0]).cells n).size=n * 4:=by
 unfold Builtin.zeroCells;simp [Value.cells]
end Go.Tw
namespace Go.Proofs
open Go.RowKit Go.Tw Go.Flow
attribute [local go_sem] Oper.semAt_some
theorem X6v.ext {g:Nat} {pre post:Array Value} {w w':World} {t:Plan -> Bool} (h:X6v g pre post w t) (hx:Ext w w'):X6v g pre post w' t:=fun W y A n c hW=>h W y A n c (hx.trans hW)
theorem X6t (w:World) (B:Nat) (v:Value) (ps:List PV) (g:Nat) (pre post:Array Value) (t:Plan -> Bool) (hv:Q0z w B 159 4 Q2f v ps) (hc:Q0j w ps) (hl:ps.length <= 100000)
    (eg:∀ args w,(callFunc g args).run Tryz.prog w=.ok (.enter g args) w) (ht:X6v g pre post w t) :
    Calls Tryz.prog 226 #[v,.func (.func g) pre post] w fun e w'=>e=.returned (.bool (ps.any fun q=>t q.1)) /\ Ext w w':=by
 have HI:=hid (X5g w B v ps g pre post t hv hc hl eg ht);obtain ⟨A,cv,rfl⟩:∃ A cv,v=.slice A ps.length cv:=by
  obtain ⟨A,c,h,_⟩:=hv.shape;exact ⟨A,c,h⟩
 obtain ⟨L,hL⟩:∃ L,ps.length=L:=⟨_,rfl⟩;rw [hL] at HI ⊢;clear hv hc ht hL;go_enter Tryz.func226,Tryz.ntmps226;go_wp2_with (go_at_call 247; refine HI.out.mono ?_; rintro e w' ⟨r,rfl,hr,hx⟩; have HR:=hid hr; clear hr);go_ret;refine ⟨Q0u ?_,hx⟩
 rcases HR.out with ⟨rfl,h⟩ | ⟨k,rfl,q,hq,htq,_⟩
 . rw [List.any_eq_false.2 (fun q hq=>by rw [h q hq]; simp)]; rfl
 . rw [List.any_eq_true.2 ⟨q,List.mem_of_getElem? hq,htq⟩]
   simp
theorem J1f (w:World) (x:Plan) (A:Option Addr) (n c Bx:Nat) (hb:Blk w Bx 159 #[.int .i64 x.weight,.int .i64 x.closings,.int .i64 x.delay,.slice A n c]) :
    X6v 227 #[] #[.pointer (some ⟨Bx,0,none⟩)] w (fun o=>o.Q3w x):=by
 intro W y A' n' c' hW;have HB:=hid (hb.ext hW);have HBE:=hid (fun W=>X8d W y x A' A n' n c' c);obtain ⟨x1,x2,x3,x4⟩:=x;obtain ⟨y1,y2,y3,y4⟩:=y;unfold Z0x at HBE ⊢;dsimp only at HBE HB ⊢;obtain ⟨q,hq⟩:∃ q,(⟨y1,y2,y3,y4⟩:Plan).Q3w ⟨x1,x2,x3,x4⟩=q:=⟨_,rfl⟩;rw [hq] at HBE ⊢;have hx:=Ext.box W (.cells #[.int .i64 y1,.int .i64 y2,.int .i64 y3,.slice A' n' c'] 159);have k0:=Blk.made W 159 #[.int .i64 y1,.int .i64 y2,.int .i64 y3,.slice A' n' c'];have hb2:=HB.out.ext hx;have c0:=(k0).cell 0;have c1:=(k0).cell 1;have c2:=(k0).cell 2;have c3:=(k0).cell 3;simp only [Go.Tw.gA,Go.Tw.gB,Go.Tw.gC] at c0 c1 c2 c3;have d0:=(hb2).cell 0;have d1:=(hb2).cell 1;have d2:=(hb2).cell 2;have d3:=(hb2).cell 3;simp only [Go.Tw.gA,Go.Tw.gB,Go.Tw.gC] at d0 d1 d2 d3;clear hb hW hq k0 hb2;show Calls Tryz.prog 227 #[.agg #[.int .i64 y1,.int .i64 y2,.int .i64 y3,.slice A' n' c'],.pointer (some ⟨Bx,0,none⟩)] W _;go_enter Tryz.func227,Tryz.ntmps227;go_wp2_with (go_at_call 228; refine (HBE.out _).mono ?_; rintro e w9 ⟨rfl,hx9⟩);go_ret;exact ⟨rfl,hx.trans hx9⟩
theorem J1d (w:World) (x:Plan) (A:Option Addr) (n c:Nat):X6v 228 #[Z0x x (.slice A n c)] #[] w (fun o=>x.Q3w o):=fun W y A' n' c' _=>X8d W x y A A' n n' c c'
structure Y9p (W wr:World) (g:Nat) (cur cur':Array Value) (ps:List PV) (t:Plan -> Bool) (J i:Nat):Prop where
 blk:Blk wr g 159 cur'
 size:cur'.size=cur.size
 len:((ps.take J).filter fun q=>!t q.1).length=i
 head:cur'.toList.take (i * 4)=((ps.take J).filter fun q=>!t q.1).flatMap Q2f
 rest:∀ k,J * 4 <= k -> cur'[k]?=cur[k]?
 grown:W.grownBy wr (some g)
 closed:Q0j wr ps
theorem Q0j.off {w w':World} {ps:List PV} {g:Nat} {cs:Array Value} (h:Q0j w ps) (hb:Blk w g 159 cs) (ho:∀ k,k < w.heap.size -> k ≠ g -> w'.heap[k]?=w.heap[k]?):Q0j w' ps:=fun q hq=>by
 obtain ⟨h1,h2⟩:=h q hq;refine ⟨h1,?_⟩
 rcases h2 with h2 | ⟨g',cap,cur,hv,hbg,hgl,r⟩
 . exact .inl h2
 . refine .inr ⟨g',cap,cur,hv,hbg,(ho g' (Array.getElem?_eq_some_iff.1 hgl).1 fun e=>?_).trans hgl,r⟩
   subst e;unfold Blk at hb;rw [hb] at hgl;injection hgl with h;injection h with _ h;exact absurd h (by decide)
theorem Y9p.ext {W wr wr':World} {g:Nat} {cur cur':Array Value} {ps:List PV} {t:Plan -> Bool} {J i:Nat} (h:Y9p W wr g cur cur' ps t J i) (hx:Ext wr wr'):Y9p W wr' g cur cur' ps t J i :=
 ⟨h.blk.ext hx,h.size,h.len,h.head,h.rest,Q4f h.grown hx,h.closed.ext hx⟩
theorem Y9p.skip {W wr:World} {g:Nat} {cur cur':Array Value} {ps:List PV} {t:Plan -> Bool} {J i:Nat} (h:Y9p W wr g cur cur' ps t J i) {q:PV} (hq:ps[J]?=some q) (ht:t q.1=true):Y9p W wr g cur cur' ps t (J + 1) i:=by
 obtain ⟨hJ,rfl⟩:=List.getElem?_eq_some_iff.1 hq;have e:(ps.take (J + 1)).filter (fun q=>!t q.1)=(ps.take J).filter fun q=>!t q.1:=by
  rw [List.take_succ_eq_append_getElem hJ,List.filter_append]; simp [ht]
 exact ⟨h.blk,h.size,by rw [e]; exact h.len,by rw [e]; exact h.head,fun k hk=>h.rest k (by omega),h.grown,h.closed⟩
theorem Y9p.put {W wr w9:World} {g cap:Nat} {cur cur':Array Value} {ps:List PV} {t:Plan -> Bool} {J i:Nat} (h:Y9p W wr g cur cur' ps t J i) {q:PV} (hq:ps[J]?=some q) (ht:t q.1=false) (hi:i <= J) (hsz:cur.size=cap * 4) (hc:ps.length <= cap)
    (hb:Blk w9 g 159 (Q2s cur' (i * 4) (Q2f q))) (hl:Below 0 wr w9) (ho:∀ k,k ≠ g -> w9.heap[k]?=wr.heap[k]?):Y9p W w9 g cur (Q2s cur' (i * 4) (Q2f q)) ps t (J + 1) (i + 1):=by
 obtain ⟨hJ,rfl⟩:=List.getElem?_eq_some_iff.1 hq;have e:(ps.take (J + 1)).filter (fun q=>!t q.1)=((ps.take J).filter fun q=>!t q.1) ++ [ps[J]]:=by
  rw [List.take_succ_eq_append_getElem hJ,List.filter_append]; simp [ht]
 have hfit:i * 4 + (Q2f ps[J]).length <= cur'.size:=by rw [h.size,hsz,Q3h]; omega
 refine ⟨hb,by rw [X0n,h.size],by rw [e,List.length_append,h.len]; rfl,?_,fun k hk=>?_,Q9a h.grown hl ho,h.closed.off h.blk fun k _ hk=>ho k hk⟩
 . rw [e,List.flatMap_append,<- h.head,List.flatMap_singleton]
   apply List.ext_getElem?
   intro k;rw [List.getElem?_take,Array.getElem?_toList,Q4w _ _ _ _ hfit,Q3h];have hl0:(cur'.toList.take (i * 4)).length=i * 4:=by rw [List.length_take,Array.length_toList,h.size,hsz]; omega
   by_cases h1:k < i * 4
   . rw [if_pos (by omega),if_neg (by omega),List.getElem?_append_left (by rw [hl0]; exact h1),List.getElem?_take,if_pos h1,Array.getElem?_toList]
   . rw [List.getElem?_append_right (by rw [hl0]; omega),hl0]
     by_cases h2:k < (i + 1) * 4
     . rw [if_pos h2,if_pos (by omega)]
     . rw [if_neg h2]
       exact (List.getElem?_eq_none (by rw [Q3h]; omega)).symm
 . rw [Q4w _ _ _ _ hfit,Q3h,if_neg (by omega)]
   exact h.rest k (by omega)
theorem Y9p.start {W wr:World} {g:Nat} {cur:Array Value} {ps:List PV} {t:Plan -> Bool} {k:Nat} {q:PV} (hb:Blk W g 159 cur) (hx:Ext W wr) (ht:cur.toList.take (ps.length * 4)=ps.flatMap Q2f) (hc:Q0j W ps) (hq:ps[k]?=some q) (htq:t q.1=true)
    (hno:∀ j q',j < k -> ps[j]?=some q' -> t q'.1=false):Y9p W wr g cur cur ps t (k + 1) k:=by
 obtain ⟨hk,rfl⟩:=List.getElem?_eq_some_iff.1 hq;have e:(ps.take (k + 1)).filter (fun q=>!t q.1)=ps.take k:=by
  rw [List.take_succ_eq_append_getElem hk,List.filter_append,List.filter_eq_self.2]
  . simp [htq]
  . intro z hz
    obtain ⟨j,hj,rfl⟩:=List.getElem_of_mem hz;rw [List.length_take] at hj;rw [List.getElem_take,hno j ps[j] (by omega) (List.getElem?_eq_getElem (by omega))]; rfl
 refine ⟨hb.ext hx,rfl,by rw [e,List.length_take]; omega,?_,fun _ _=>rfl,Q4f (Q5m W _) hx,hc.ext hx⟩
 rw [e,<- Y2d,<- ht,List.take_take,Nat.min_eq_left (by omega)]
theorem Tryz.Z9e (w:World):(zeroValue 159).run Tryz.prog w=.ok (.agg #[.int .i64 0,.int .i64 0,.int .i64 0,.slice none 0 0]) w:=by kernel_rfl
theorem filter_none {ps:List PV} {t:Plan -> Bool} (h:∀ q ∈ ps,t q.1=false):(ps.filter fun q=>!t q.1)=ps:=List.filter_eq_self.2 fun q hq=>by rw [h q hq]; rfl
def Z9l (v v':Value) (k:Nat):Prop:=∀ A n c,v=.slice A n c -> v'=.slice A k c
theorem Y2y (w:World) (B:Nat) (v:Value) (ps:List PV) (fg:Nat) (pre post:Array Value) (t:Plan -> Bool) (hv:Q0z w B 159 4 Q2f v ps) (hc:Q0j w ps) (hl:ps.length <= 100000)
    (eg:∀ args w,(callFunc fg args).run Tryz.prog w=.ok (.enter fg args) w) (ht:∀ W,X6v fg pre post W t) :
    Calls Tryz.prog 229 #[v,.func (.func fg) pre post] w fun e w'=>∃ v',e=.returned v' /\ Q0z w' B 159 4 Q2f v' (ps.filter fun q=>!t q.1) /\ Q0j w' (ps.filter fun q=>!t q.1) /\ w.grownBy w' v.ownBlock /\ Z9l v v' (ps.filter fun q=>!t q.1).length:=by
 have HI:=hid (X5g w B v ps fg pre post t hv hc hl eg (ht w));have HT:=hid ht;have HC:=hid hc
 rcases OwnP.cases hv with ⟨rfl,rfl⟩ | ⟨g,cap,cur,rfl,hbg,hb,hcap,hmax,hsz,htk⟩
 . have HV:=hid hv
   clear hv hc ht;go_enter Tryz.func229,Tryz.ntmps229;go_wp2_with (go_at_call 247; refine HI.out.mono ?_; rintro e w5 ⟨r,rfl,hr,hx5⟩; have HX5:=hid hx5; refine halted ?_);have hr1:r=-1:=by
    rcases hr with ⟨h,_⟩ | ⟨k,_,q,hq,_⟩
    . exact h
    . simp at hq
   subst hr1;clear hr hx5;unfold Q1i;go_wp2;go_ret;exact ⟨_,rfl,HV.out.below HX5.out,Q0j.nil _,Q4f (Q5m w _) HX5.out,fun A n c h=>by cases h; rfl⟩
 . have HV:=hid hv
   have HB:=hid hb;have HTK:=hid htk;have HSZ:=hid hsz;have HMX:=hid hmax;have HBG:=hid hbg;obtain ⟨L,hL⟩:∃ L,ps.length=L:=⟨_,rfl⟩;have HL:=hid hL;rw [hL] at HI hcap hl ⊢;clear hv hb htk hsz hmax hbg hc ht hL;go_enter Tryz.func229,Tryz.ntmps229;go_wp2_with (go_at_call 247; refine HI.out.mono ?_; rintro e w5 ⟨r,rfl,hr,hx5⟩; have HX5:=hid hx5; refine halted ?_);have HR:=hid hr;clear hr hx5;unfold Q1i
   by_cases hr1:r=-1
   . subst hr1
     have HN:Hid ((ps.filter fun q=>!t q.1)=ps):=hid (by
      rcases HR.out with ⟨_,h⟩ | ⟨k,h,_⟩
      . exact filter_none h
      . omega)
     go_wp2;go_ret;exact ⟨_,rfl,by rw [HN.out,<- HL.out]; exact HV.out.below HX5.out,by rw [HN.out]; exact HC.out.ext HX5.out,Q4f (Q5m w _) HX5.out,fun A n c h=>by cases h; rw [HN.out,HL.out]; rfl⟩
   . obtain ⟨k0,rfl,q0,hq0,htq,hno⟩:∃ k:Nat,r=(k:Int) /\ ∃ q,ps[k]?=some q /\ t q.1=true /\ ∀ j q',j < k -> ps[j]?=some q' -> t q'.1=false:=by
      rcases HR.out with ⟨h,_⟩ | h
      . exact absurd h hr1
      . exact h
     have hk0:k0 < L:=by rw [<- HL.out]; exact (List.getElem?_eq_some_iff.1 hq0).1
     have HST:=hid (Y9p.start HB.out HX5.out HTK.out HC.out hq0 htq hno);have hk1:((k0:Int) == -1)=false:=by rw [beq_eq_false_iff_ne]; omega
     have hwk:IntKind.i64.wrap ((k0:Int) + 1)=(k0:Int) + 1:=Q2v _ (by omega) (by omega)
     clear hr1 hq0 htq hno;go_wp2
     go_loopw [5,6] (fun iv jv wr=>∃ (i J:Nat) (cur':Array Value),i < J /\ J <= L /\ iv=.int .i64 i /\ jv=.int .i64 J /\ Y9p w wr g cur cur' ps t J i) (fun _ jv _=>L - (intOf jv).toNat)
     case atStart=>exact ⟨k0,k0 + 1,cur,by omega,by omega,rfl,by go_num,HST.out⟩
     case round =>
      obtain ⟨i,J,cur',hiJ,hJL,rfl,rfl,hdel⟩:=hrel;have HD:=hid hdel;clear hdel
      by_cases hlt:J < L
      . have hJI:(J:Int) < L:=by omega
        have hiI:(i:Int) < L:=by omega
        have hJp:J < ps.length:=by rw [HL.out]; exact hlt
        have HPJ:Hid (ps[J]?=some ps[J]):=hid (List.getElem?_eq_getElem hJp);have hcell:∀ m,m < 4 -> wr.cell? ⟨g,J * 4 + m,none⟩=(Q2f ps[J])[m]?:=fun m hm=>by
         rw [HD.out.blk.cell,HD.out.rest _ (by omega),<- HB.out.cell]
         exact X0w HB.out HTK.out hJp hm
        have e0:=hcell 0 (by omega)
        have e1:=hcell 1 (by omega)
        have e2:=hcell 2 (by omega)
        have e3:=hcell 3 (by omega)
        obtain ⟨A4,n4,c4,hsl⟩:=HD.out.closed.shape (List.getElem_mem hJp);have HONE:=hid (Y6z HD.out.closed (List.getElem_mem hJp));have HTJ:=hid (fun W=>HT.out W W ps[J].1 A4 n4 c4 (Ext.refl _));obtain ⟨q,hq⟩:∃ q,t ps[J].1=q:=⟨_,rfl⟩;have HQ:=hid hq;rw [hq] at HTJ;obtain ⟨qk,hqk⟩:∃ z,ps[J]=z:=⟨_,rfl⟩;rw [hqk] at e0 e1 e2 e3 hsl HTJ HQ HPJ HONE;obtain ⟨⟨x1,x2,x3,x4⟩,xv⟩:=qk;replace hsl:xv=.slice A4 n4 c4:=hsl;subst hsl;unfold Z0x at HTJ;dsimp only at HTJ;simp only [Q2f,List.getElem?_cons_zero,List.getElem?_cons_succ] at e0 e1 e2 e3;rw [Nat.add_zero] at e0;have hbox:=Ext.box wr (.cells #[.int .i64 x1,.int .i64 x2,.int .i64 x3,.slice A4 n4 c4] 159);have K3:=Blk.made wr 159 #[.int .i64 x1,.int .i64 x2,.int .i64 x3,.slice A4 n4 c4];have HXB:=hid hbox;have HK3:=hid K3;have d0:=(K3).cell 0;have d1:=(K3).cell 1;have d2:=(K3).cell 2;have d3:=(K3).cell 3;simp only [Go.Tw.gA,Go.Tw.gB,Go.Tw.gC] at d0 d1 d2 d3;clear hcell hq hqk hbox K3 hJp
        go_light
        go_wp2_with (refine (HTJ.out _).mono ?_; rintro e w9 ⟨rfl,hx9⟩; refine halted ?_);have HX9:=hid (HXB.out.trans hx9);have hk9:=HK3.out.ext hx9;have HD9:=hid (HD.out.ext HX9.out);have f0:=(hk9).cell 0;have f1:=(hk9).cell 1;have f2:=(hk9).cell 2;have f3:=(hk9).cell 3;simp only [Go.Tw.gA,Go.Tw.gB,Go.Tw.gC] at f0 f1 f2 f3;clear hx9 hk9 d0 d1 d2 d3 e0 e1 e2 e3;unfold Q1i;cases q with
        | true =>
          have HD2:=hid (HD9.out.skip HPJ.out HQ.out);go_wp2;go_roundw
          case rel=>exact ⟨i,J + 1,cur',by omega,by omega,rfl,by go_num,HD2.out⟩
          case measure=>simp [intOf]; omega
        | false =>
          have HFIT:Hid (i * 4 + 4 <= cur'.size):=hid (by rw [HD9.out.size,HSZ.out]; omega)
          go_wp2_with (refine Q1z rfl ?_; refine X3o _ _ 159 rfl Tryz.X5w (g:=g) (off:=i * 4) (by go_simp) (vs:=#[.int .i64 x1,.int .i64 x2,.int .i64 x3,.slice A4 n4 c4]) (by go_simp) HD9.out.blk HFIT.out rfl HONE.out ?_; intro vv w8 hb8 hl8 ho8; refine halted ?_)
          have HD2:=hid (HD9.out.put HPJ.out HQ.out (by omega) HSZ.out (by rw [HL.out]; exact hcap) hb8 (hl8 0 (Nat.zero_le _)) ho8)
          clear hb8 hl8 ho8 f0 f1 f2 f3;unfold Q1i;go_wp2;go_roundw
          case rel=>exact ⟨i + 1,J + 1,_,by omega,by omega,by go_num,by go_num,HD2.out⟩
          case measure=>simp [intOf]; omega
      . have hJe:J=L:=by omega
        subst hJe;have t1:(i:Int) <= (J:Int):=by omega
        have t2:¬ J < i:=by omega
        have t3:¬ cap=i:=by omega
        have t4:¬ cap < i:=by omega
        have t5:¬ cap < J:=by omega
        have HFIT:Hid (i * 4 + (Builtin.zeroCells (Value.agg #[.int .i64 0,.int .i64 0,.int .i64 0,.slice none 0 0]).cells (J - i)).size <= cur'.size):=hid (by
         rw [Z0e,HD.out.size,HSZ.out]; omega)
        go_wp2_with (refine Q9l rfl _ 160 159 rfl Tryz.underlying160 (show 0 < J - i by omega) rfl HD.out.blk _ Tryz.Z9e (Z2s _) HFIT.out ?_; intro w9 hb9 hl9 ho9; refine halted ?_)
        have HB9:=hid hb9;have HG9:=hid (Q9a HD.out.grown (hl9 0 (Nat.zero_le _)) ho9);have HC9:=hid (HD.out.closed.off HD.out.blk fun k _ hk=>ho9 k hk);clear hb9 hl9 ho9;unfold Q1i;go_wp2;go_ret;have hlen:=HD.out.len;have hhead:=HD.out.head;rw [show ps.take J=ps from List.take_of_length_le (by rw [HL.out]; exact Nat.le_refl _)] at hlen hhead
        refine ⟨_,rfl,⟨?_,.inr ⟨g,cap,_,by rw [hlen]; rfl,HBG.out,HB9.out,by rw [hlen]; omega,HMX.out,by rw [X0n,HD.out.size,HSZ.out],?_⟩⟩,HC9.out.sub fun q hq=>(List.mem_filter.1 hq).1,HG9.out,fun A n c h=>by cases h; rw [hlen]; rfl⟩
        . exact X0z Q3h _
        . rw [hlen,<- hhead]
          apply List.ext_getElem?
          intro k;have hf:=HFIT.out;rw [<- Array.length_toList] at hf;rw [List.getElem?_take,List.getElem?_take,Array.getElem?_toList,Array.getElem?_toList,Q4w _ _ _ _ hf]
          by_cases hk:k < i * 4
          . rw [if_pos hk,if_pos hk,if_neg (by omega)]
          . rw [if_neg hk,if_neg hk]
end Go.Proofs
namespace Go.Flow
open Go.RowKit Go.Tw
structure Y1j (Rel:World -> World -> Prop) where
 D:(Nat -> Value) -> World -> Prop
 mono:∀ v w w',Rel w w' -> D v w -> D v w'
def Y1j.is {Rel:World -> World -> Prop} (j:Nat) (e:(Nat -> Value) -> Value):Y1j Rel:=⟨fun v _=>v j=e v,fun _ _ _ _ h=>h⟩
def Y1j.c {Rel:World -> World -> Prop} (j:Nat) (x:Value):Y1j Rel:=Y1j.is j fun _=>x
def Y1j.none {Rel:World -> World -> Prop}:Y1j Rel:=⟨fun _ _=>True,fun _ _ _ _ _=>trivial⟩
def Z8v (Rel:World -> World -> Prop) (P:Program) (pre:Nat -> List Nat) (D:Nat -> (Nat -> Value) -> World -> Prop) (E:(Nat -> Value) -> World -> World -> Prop) (k:Kind) (o:Oper) (j:Nat) (b:Act) (v:Nat -> Value) (w1 w:World):Prop :=
 match k with
 | .plain=>∃ u,(∀ w,(execOp b.eval o).run P w=.ok (.value u) w) /\ D j (mask pre j (upd v j u)) w1
 | .world=>∀ K:Value -> World -> Prop,(∀ u w',Rel w1 w' -> D j (mask pre j (upd v j u)) w' -> K u w') -> gives P K ((execOp b.eval o).run P w1)
 | .last=>∀ K:Value -> World -> Prop,(∀ u w',E (mask pre j (upd v j u)) w1 w' -> K u w') -> gives P K ((execOp b.eval o).run P w)
theorem Z6m {Rel:World -> World -> Prop} {P:Program} {ops:Array Oper} {pre:Nat -> List Nat} {D:Nat -> (Nat -> Value) -> World -> Prop} {T E:(Nat -> Value) -> World -> World -> Prop} {k:Kind} {o:Oper} {j:Nat} {b:Act} {v:Nat -> Value} {w1:World}
    (hk:k ≠ .last) (h:Guarded ops o b (Z8v Rel P pre D E k o j b v w1 w1) (Pass pre D E k j v w1 w1)):vc P ops pre Rel D T E k o j b v w1:=by
 have h':(Region.wanted o (yielded ops b.tmps)=true /\ Z8v Rel P pre D E k o j b v w1 w1) ∨ (Region.wanted o (yielded ops b.tmps)=false /\ Pass pre D E k j v w1 w1):=by
  unfold Guarded at h;cases hg:o.guard with
  | none=>rw [hg] at h; exact .inl ⟨by simp [Region.wanted,hg],h⟩
  | some g=>rw [hg] at h; exact h
 cases k with
 | plain=>exact h'.imp (fun ⟨a,u,b,c⟩=>⟨a,u,b,c⟩) id
 | world=>exact h'.imp (fun ⟨a,b⟩=>⟨a,b _ fun u w' h1 h2=>⟨h1,h2⟩⟩) id
 | last=>exact absurd rfl hk
theorem Z5u {Rel:World -> World -> Prop} {P:Program} {ops:Array Oper} {pre:Nat -> List Nat} {D:Nat -> (Nat -> Value) -> World -> Prop} {T E:(Nat -> Value) -> World -> World -> Prop} {o:Oper} {j:Nat} {b:Act} {v:Nat -> Value} {w1:World}
    (h:∀ w,T v w1 w -> Guarded ops o b (Z8v Rel P pre D E .last o j b v w1 w) (Pass pre D E .last j v w1 w)):vc P ops pre Rel D T E .last o j b v w1:=by
 intro w hT;have h:=h w hT;have h':(Region.wanted o (yielded ops b.tmps)=true /\ Z8v Rel P pre D E .last o j b v w1 w) ∨ (Region.wanted o (yielded ops b.tmps)=false /\ Pass pre D E .last j v w1 w):=by
  unfold Guarded at h;cases hg:o.guard with
  | none=>rw [hg] at h; exact .inl ⟨by simp [Region.wanted,hg],h⟩
  | some g=>rw [hg] at h; exact h
 exact h'.imp (fun ⟨a,b⟩=>⟨a,b _ fun u w' h1=>h1⟩) id
section
variable {P:Program} {id:Nat} {Q:Exit -> Act -> World -> Prop} {a0:Act} {w:World} {ops:List Oper}
end
end Go.Flow
