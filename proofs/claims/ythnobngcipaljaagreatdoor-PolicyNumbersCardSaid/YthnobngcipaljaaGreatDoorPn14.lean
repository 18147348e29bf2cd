/- Contracts: Q4w; Index and Contains over plans (of the program). -/
import Derived.Test.YthnobngcipaljaaGreatDoorPn13
import Derived.Test.YthnobngcipaljaaGreatDoorPn09
set_option maxRecDepth 1000000
set_option maxHeartbeats 64000000
set_option linter.unusedVariables false
set_option linter.unusedSimpArgs false
set_option linter.constructorNameAsVariable false
open Go.Lib (hid)
namespace Go.Tw
open Go.RowKit
abbrev PV:=Plan × Value
def Q2q (q:PV):List Value:=[.int .i64 q.1.weight,.int .i64 q.1.closings,.int .i64 q.1.delay,q.2]
theorem Q4i (q:PV):(Q2q q).length=4:=rfl
def Z5z (x:Plan) (c:Value):Value:=.agg #[.int .i64 x.weight,.int .i64 x.closings,.int .i64 x.delay,c]
end Go.Tw
namespace Go.Proofs
open Go.RowKit Go.Tw Go.Flow
attribute [local go_sem] Oper.semAt_some
theorem Tryz.J5y (w:World):(isAgg 159).run Tryz.prog w=.ok true w:=by kernel_rfl
theorem Tryz.Y0e (w:World):(sizeOf 159).run Tryz.prog w=.ok 4 w:=by kernel_rfl
def Q0p (w:World) (ps:List PV):Prop:=∀ q ∈ ps,Q0m w 0 9 .string q.2 q.1.closed
theorem Q0p.nil (w:World):Q0p w []:=fun _ hq=>by simp at hq
theorem Q0p.ext {w w':World} {ps:List PV} (h:Q0p w ps) (hx:Ext w w'):Q0p w' ps:=fun q hq=>(h q hq).below hx
theorem Q0p.snoc {w:World} {ps:List PV} {q:PV} (h:Q0p w ps) (hq:Q0m w 0 9 .string q.2 q.1.closed):Q0p w (ps ++ [q]):=fun z hz=>by
 rcases List.mem_append.1 hz with hz | hz
 . exact h z hz
 . rw [List.mem_singleton.1 hz]; exact hq
theorem Q0p.sub {w:World} {ps qs:List PV} (h:Q0p w ps) (hs:∀ q ∈ qs,q ∈ ps):Q0p w qs:=fun q hq=>h q (hs q hq)
theorem Q0p.shape {w:World} {ps:List PV} (h:Q0p w ps) {q:PV} (hq:q ∈ ps):∃ A n c,q.2=.slice A n c:=by
 obtain ⟨A,c,he,_⟩:=(h q hq).shape;exact ⟨A,_,c,he⟩
theorem Z2o {w:World} {ps:List PV} (h:Q0p w ps) {q:PV} (hq:q ∈ ps):∀ u ∈ Q2q q,u.oneCell'=true:=by
 obtain ⟨A,n,c,he⟩:=h.shape hq;intro u hu;simp only [Q2q,List.mem_cons,List.not_mem_nil,or_false] at hu
 rcases hu with rfl | rfl | rfl | rfl
 . rfl
 . rfl
 . rfl
 . rw [he]; rfl
theorem OwnP.cases {w:World} {B:Nat} {v:Value} {ps:List PV} (h:Q1g w B 159 4 Q2q v ps) :
    (v=.slice none 0 0 /\ ps=[]) ∨ ∃ g cap cur,v=.slice (some ⟨g,0,none⟩) ps.length cap /\ B <= g /\ Blk w g 159 cur /\ ps.length <= cap /\ cap <= maxLen /\ cur.size=cap * 4 /\ cur.toList.take (ps.length * 4)=ps.flatMap Q2q:=by
 obtain ⟨h1,h2⟩:=h
 rcases h2 with ⟨rfl,h0⟩ | ⟨g,cap,cur,rfl,hbg,hg,hcap,hmax,hsz,ht⟩
 . exact .inl ⟨rfl,List.length_eq_zero_iff.1 h0⟩
 . exact .inr ⟨g,cap,cur,rfl,hbg,hg,hcap,hmax,hsz,ht⟩
theorem X2m {w:World} {g:Nat} {T:TypeId} {cur:Array Value} {ps:List PV} (hb:Blk w g T cur) (ht:cur.toList.take (ps.length * 4)=ps.flatMap Q2q) {j i:Nat} (hj:j < ps.length) (hi:i < 4):w.cell? ⟨g,j * 4 + i,none⟩=(Q2q ps[j])[i]?:=by
 rw [hb.cell,<- flat_get Q4i ps j i hj hi,<- ht,List.getElem?_take,if_pos (by omega)]
 simp
theorem Y3b (w:World) (x y:Plan) (A B:Option Addr) (n m c d:Nat) :
    Calls Tryz.prog 228 #[Z5z x (.slice A n c),Z5z y (.slice B m d)] w fun e w'=>e=.returned (.bool (x.Q4w y)) /\ Ext w w':=by
 obtain ⟨x1,x2,x3,x4⟩:=x;obtain ⟨y1,y2,y3,y4⟩:=y;unfold Z5z;dsimp only;have k0:=Blk.made w 159 #[.int .i64 x1,.int .i64 x2,.int .i64 x3,.slice A n c];have x0:=Ext.box w (.cells #[.int .i64 x1,.int .i64 x2,.int .i64 x3,.slice A n c] 159);have k1:=Blk.made (w.alloc (.cells #[.int .i64 x1,.int .i64 x2,.int .i64 x3,.slice A n c] 159)) 159 #[.int .i64 y1,.int .i64 y2,.int .i64 y3,.slice B m d];have xx:=Ext.box (w.alloc (.cells #[.int .i64 x1,.int .i64 x2,.int .i64 x3,.slice A n c] 159)) (.cells #[.int .i64 y1,.int .i64 y2,.int .i64 y3,.slice B m d] 159);have es:(w.alloc (.cells #[.int .i64 x1,.int .i64 x2,.int .i64 x3,.slice A n c] 159)).heap.size=w.heap.size + 1:=by simp
 rw [es] at k1;replace k0:=k0.ext xx;have c0:=(k0).cell 0;have c1:=(k0).cell 1;have c2:=(k0).cell 2;simp only [Go.Tw.gA,Go.Tw.gB,Go.Tw.gC] at c0 c1 c2;have d0:=(k1).cell 0;have d1:=(k1).cell 1;have d2:=(k1).cell 2;simp only [Go.Tw.gA,Go.Tw.gB,Go.Tw.gC] at d0 d1 d2;have HX:=hid (x0.trans xx);have HQ:Hid ((⟨x1,x2,x3,x4⟩:Plan).Q4w ⟨y1,y2,y3,y4⟩=(decide (y1 <= x1) && decide (x2 <= y2) && decide (x3 <= y3))):=hid rfl;clear k0 k1 x0 xx es;go_enter Tryz.func228,Tryz.ntmps228
 by_cases h1:y1 <= x1
 . by_cases h2:x2 <= y2
   . by_cases h3:x3 <= y3
     . have HR:Hid ((⟨x1,x2,x3,x4⟩:Plan).Q4w ⟨y1,y2,y3,y4⟩=true):=hid (by rw [HQ.out]; simp [h1,h2,h3])
       go_wp2;go_ret;exact ⟨Q0w HR.out.symm,HX.out⟩
     . have HR:Hid ((⟨x1,x2,x3,x4⟩:Plan).Q4w ⟨y1,y2,y3,y4⟩=false):=hid (by rw [HQ.out]; simp [h1,h2,h3])
       go_wp2;go_ret;exact ⟨Q0w HR.out.symm,HX.out⟩
   . have HR:Hid ((⟨x1,x2,x3,x4⟩:Plan).Q4w ⟨y1,y2,y3,y4⟩=false):=hid (by rw [HQ.out]; simp [h1,h2])
     go_wp2;go_ret;exact ⟨Q0w HR.out.symm,HX.out⟩
 . have HR:Hid ((⟨x1,x2,x3,x4⟩:Plan).Q4w ⟨y1,y2,y3,y4⟩=false):=hid (by rw [HQ.out]; simp [h1])
   go_wp2;go_ret;exact ⟨Q0w HR.out.symm,HX.out⟩
def Y1c (g:Nat) (pre post:Array Value) (w:World) (t:Plan -> Bool):Prop :=
 ∀ W (y:Plan) (A:Option Addr) (n c:Nat),Ext w W -> Calls Tryz.prog g (pre ++ #[Z5z y (.slice A n c)] ++ post) W fun e W'=>e=.returned (.bool (t y)) /\ Ext W W'
theorem X8c (w:World) (B:Nat) (v:Value) (ps:List PV) (g:Nat) (pre post:Array Value) (t:Plan -> Bool) (hv:Q1g w B 159 4 Q2q v ps) (hc:Q0p w ps) (hl:ps.length <= 100000)
    (eg:∀ args w,(callFunc g args).run Tryz.prog w=.ok (.enter g args) w) (ht:Y1c g pre post w t) :
    Calls Tryz.prog 247 #[v,.func (.func g) pre post] w fun e w'=>∃ r:Int,e=.returned (.int .i64 r) /\ ((r=-1 /\ ∀ q ∈ ps,t q.1=false) ∨ ∃ k:Nat,r=(k:Int) /\ ∃ q,ps[k]?=some q /\ t q.1=true /\ ∀ j q',j < k -> ps[j]?=some q' -> t q'.1=false) /\ Ext w w':=by
 have HC:=hid hc;have HT:=hid ht;obtain ⟨A,cv,hsh,HCELL⟩:∃ A cv,v=.slice A ps.length cv /\ Hid (∀ j (hj:j < ps.length),∃ gb,A=some ⟨gb,0,none⟩ /\ ∀ i,i < 4 -> w.cell? ⟨gb,j * 4 + i,none⟩=(Q2q ps[j])[i]?):=by
  rcases OwnP.cases hv with ⟨rfl,h0⟩ | ⟨gb,cap,cur,rfl,_,hb,_,_,_,htk⟩
  . exact ⟨none,0,by rw [h0]; rfl,hid (fun j hj=>by rw [h0] at hj; simp at hj)⟩
  . exact ⟨_,cap,rfl,hid (fun j hj=>⟨gb,rfl,fun i hi=>X2m hb htk hj hi⟩)⟩
 subst hsh;obtain ⟨L,hL⟩:∃ L,ps.length=L:=⟨_,rfl⟩;have HLL:=hid hL;rw [hL] at hl ⊢;clear hv hc ht hL;go_enter Tryz.func247,Tryz.ntmps247;go_wp2
 go_loopw [8] (fun i wr=>∃ k:Nat,k <= L /\ i=.int .i64 k /\ (∀ j (hj:j < ps.length),j < k -> t ps[j].1=false) /\ Ext w wr) (fun i _=>L - (intOf i).toNat)
 case atStart=>exact ⟨0,Nat.zero_le _,rfl,fun j _ h=>absurd h (Nat.not_lt_zero _),Ext.refl _⟩
 case round =>
  obtain ⟨k,hk,rfl,hno,hx⟩:=hrel;have HNO:=hid hno;have HX:=hid hx;clear hno
  by_cases hlt:k < L
  . have hkp:k < ps.length:=by rw [HLL.out]; exact hlt
    have hkI:(k:Int) < L:=by omega
    obtain ⟨gb,rfl,hcell⟩:=HCELL.out k hkp;have e0:=hx.cell (hcell 0 (by omega))
    have e1:=hx.cell (hcell 1 (by omega))
    have e2:=hx.cell (hcell 2 (by omega))
    have e3:=hx.cell (hcell 3 (by omega))
    obtain ⟨A4,n4,c4,hsl⟩:=HC.out.shape (List.getElem_mem hkp);have HTK:=hid (HT.out wr ps[k].1 A4 n4 c4 hx);have HKEY:Hid (∀ q,t ps[k].1=q -> t ps[k].1=q):=hid (fun _ h=>h);obtain ⟨q,hq⟩:∃ q,t ps[k].1=q:=⟨_,rfl⟩;have HQ:=hid hq;rw [hq] at HTK;have HPK:Hid (ps[k]?=some ps[k]):=hid (List.getElem?_eq_getElem hkp);obtain ⟨qk,hqk⟩:∃ z,ps[k]=z:=⟨_,rfl⟩;rw [hqk] at e0 e1 e2 e3 hsl HTK HQ HPK;obtain ⟨⟨x1,x2,x3,x4⟩,xv⟩:=qk;replace hsl:xv=.slice A4 n4 c4:=hsl;subst hsl;unfold Z5z at HTK;dsimp only at HTK;dsimp only at e0 e1 e2 e3;rw [Nat.add_zero] at e0;clear hkp hcell hq HKEY hqk hx;cases q with
    | true =>
      go_wp2_with (refine HTK.out.mono ?_; rintro e w9 ⟨rfl,hx9⟩);go_ret;exact ⟨k,rfl,.inr ⟨k,rfl,_,HPK.out,HQ.out,fun j q' hj hq'=>by
       obtain ⟨h,rfl⟩:=List.getElem?_eq_some_iff.1 hq';exact HNO.out j h hj⟩,HX.out.trans hx9⟩
    | false =>
      go_wp2_with (refine HTK.out.mono ?_; rintro e w9 ⟨rfl,hx9⟩);go_roundw
      case rel=>exact ⟨k + 1,by omega,by go_num,fun j h hj=>by
       by_cases hjk:j < k
       . exact HNO.out j h hjk
       . have:j=k:=by omega
         subst this;have h2:=HPK.out;rw [List.getElem?_eq_getElem h] at h2;injection h2 with h2;rw [h2]; exact HQ.out,HX.out.trans hx9⟩
      case measure=>simp [intOf]; omega
  . go_wp2
    go_ret;exact ⟨-1,rfl,.inl ⟨rfl,fun q hq=>by
     obtain ⟨j,hj,rfl⟩:=List.getElem_of_mem hq;exact HNO.out j hj (by have:=HLL.out; omega)⟩,HX.out⟩
end Go.Proofs
