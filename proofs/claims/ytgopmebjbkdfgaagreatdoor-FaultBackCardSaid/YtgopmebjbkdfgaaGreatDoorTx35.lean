/- Contract: read puts a line into a tree. -/
import Derived.Test.YtgopmebjbkdfgaaGreatDoorTx34
import Derived.Test.YtgopmebjbkdfgaaGreatDoorTx11
import Derived.Test.YtgopmebjbkdfgaaGreatDoorTx28
set_option maxRecDepth 1000000
set_option maxHeartbeats 64000000
set_option linter.unusedVariables false
set_option linter.unusedSimpArgs false
set_option linter.constructorNameAsVariable false
namespace Go.Proofs
open Go.RowKit Go.Tw Go.Flow
theorem Y9e (c:UInt8) (s:ByteArray):(Q2u c s).length = Lib.countB s ⟨#[c]⟩ + 1:=by
 rw [<- X3i];exact Lib.splitB_all ⟨#[c]⟩ (Nat.le_refl 1) 0 _ s rfl
theorem Y7b (w:World) (s:ByteArray) (c:UInt8) (m:Int) (hs:s.size <= 5000) (hm:w.cell? ⟨0,0,none⟩ = some (.int .i64 m)) :
    Calls Tryz.prog 133 #[.string s,.string ⟨#[c]⟩] w fun e w'=>e = .returned (.slice (some ⟨w.heap.size,0,none⟩) (Q2u c s).length (Q2u c s).length) /\ w' = w.alloc (.cells ((Q2u c s).map Value.string).toArray 9):=by
 have h:=Tryz.strings_Split s ⟨#[c]⟩ m w (by omega) hm (Nat.le_refl 1)
 rw [X3i,<- Y9e] at h;exact h
theorem X0y.ext {Y:Tys} {w w':World} {M O:Nat} {t:Tree} {vb vc vg:Value} {LC LG:List (ByteArray × Int × Value)} (h:X0y Y w M O t vb vc vg LC LG) (hx:Ext w w'):X0y Y w' M O t vb vc vg LC LG :=
 ⟨h.blk.ext hx,h.bas.below hx,h.cau.below hx,h.gat.below hx,⟨h.tc.1,fun i h1 h2=>⟨(h.tc.2 i h1 h2).1,(h.tc.2 i h1 h2).2.1,(h.tc.2 i h1 h2).2.2.ext hx⟩⟩,⟨h.tg.1,fun i h1 h2=>⟨(h.tg.2 i h1 h2).1,(h.tg.2 i h1 h2).2.1,(h.tg.2 i h1 h2).2.2.ext hx⟩⟩,h.sb,h.sc,h.sg⟩
theorem Z2v {g:Nat} {T:TypeId} {cs:Array Value} {a b:World} (h:Off g a b) (hg:Blk a g T cs):Keep T a b:=fun x S c hS hb=>by
 have hl:=hb.lt;have hne:=Q2b hb hg hS;unfold Blk at hb ⊢;rw [h.2.2 x hl hne]; exact hb
theorem Q8k {w:World} {base:Nat} {o:Oper} {a:Act} {x:Operand} {g N c:Nat} {n:Int} {ns:List Int} (ho:o.op = .slice 40 x (some (.const (.int .i64 1))) none none) (hx:a.eval x = .slice (some ⟨g,0,none⟩) N c)
    (h:Q0s w base 3 (.int .i64) (.slice (some ⟨g,0,none⟩) N c) (n :: ns)) (hN:N = ns.length + 1) (hl:ns.length <= 10000):∃ v,(∀ w,(execOp a.eval o).run Tryz.prog w = .ok (.value v) w) /\ Q2j w v ns:=by
 have hu:Tryz.prog.underlying 40 = some (.slice (Tryz.prog.elem 40)):=by kernel_rfl
 have hz:∀ w,(sizeOf (Tryz.prog.elem 40)).run Tryz.prog w = .ok 1 w:=fun w=>by kernel_rfl
 refine ⟨sliced (some ⟨g,0,none⟩) 1 N c 1,fun w=>?_,?_⟩
 . unfold execOp
   simp only [ho,hx,Option.map_some,Option.map_none,eval_const];rw [Sem.run_bind,run_sliceAt_slice _ _ _ _ _ _ hu,run_slice_l w _ _ _ _ hu _ _ (by decide) (by omega),hz]
   rfl
 . subst hN
   have hs:=Y7a (n:=n) (ns:=ns) h hl;unfold sliced
   split
   . rename_i h1
     subst h1;exact hs.2 rfl
   . exact hs.1
def Z1v:Tys:=⟨103,106,114,33⟩
theorem Z1v.ok:Z1v.Ok:=by constructor <;> decide
def Z5e (Y:Tys) (w:World) (M O:Nat) (t:Tree):Prop:=∃ vb vc vg LC LG,X0y Y w M O t vb vc vg LC LG
def Y0a (w:World) (M O:Nat) (t:Tree) (s:List UInt8) (e:Ending) (w':World):Prop :=
 Below M w w' /\ (Q0z t s = none -> e = .returned (.bool false)) /\ ∀ t',Q0z t s = some t' -> e = .returned (.bool true) /\ Z5e Z1v w' M O t'
theorem X0n {w w':World} {M O:Nat} {t:Tree} {s:List UInt8} (hb:Below M w w') (h:Q0z t s = none):Y0a w M O t s (.returned (.bool false)) w' :=
 ⟨hb,fun _=>rfl,fun t' h2=>by rw [h] at h2; cases h2⟩
theorem Y0e {w w':World} {M O:Nat} {t t':Tree} {s:List UInt8} (hb:Below M w w') (h:Q0z t s = some t') (hp:Z5e Z1v w' M O t'):Y0a w M O t s (.returned (.bool true)) w' :=
 ⟨hb,(fun h2=>by rw [h] at h2; cases h2),fun t2 h2=>by rw [h] at h2; injection h2 with h2; subst h2; exact ⟨rfl,hp⟩⟩
theorem X2u {x y:ByteArray} {r:List ByteArray} {s:ByteArray} (h:Q2u 32 s = x :: y :: r) (t:Tree):Q0z t (dat s) = if (dat y).isEmpty then none else match numsOf (r.map dat) with
    | some (n :: ns)=>Q2e t (dat x) (dat y) n ns
    | _=>none:=by
 have e:parts 32 (dat s) = (Q2u 32 s).map dat:=by
  unfold Q2u;rw [List.map_map];have:(dat ∘ fun l=>(⟨l.toArray⟩:ByteArray)) = id:=by funext l; rfl
  rw [this,List.map_id]; rfl
 unfold Q0z;rw [e,h];rfl
theorem Z5b {x:ByteArray} {s:ByteArray} (h:Q2u 32 s = [x]) (t:Tree):Q0z t (dat s) = none:=by
 have e:parts 32 (dat s) = (Q2u 32 s).map dat:=by
  unfold Q2u;rw [List.map_map];have:(dat ∘ fun l=>(⟨l.toArray⟩:ByteArray)) = id:=by funext l; rfl
  rw [this,List.map_id]; rfl
 unfold Q0z;rw [e,h];rfl
theorem Y8x {t:Tree} {form name:List UInt8} {n:Int} {ns:List Int} (h:form = []):Q2e t form name n ns = none:=by
 subst h;unfold Q2e;rfl
theorem Z1z {x y:ByteArray} {r:List ByteArray} {s:ByteArray} (h:Q2u 32 s = x :: y :: r) (t:Tree) {l:List Int} (hi:Z1t (false || emB x || emB y) r l true):Q0z t (dat s) = none:=by
 rw [X2u h]
 by_cases hy:(dat y).isEmpty = true
 . rw [if_pos hy]
 . rw [if_neg hy]
   rcases hi.2 rfl with h1 | h1
   . have hx:dat x = []:=by
      have e:emB y = false:=by rw [<- Bool.not_eq_true]; exact hy
      rw [e,Bool.or_false,Bool.false_or] at h1;exact List.isEmpty_iff.1 h1
     rcases hn:numsOf (r.map dat) with _ | ⟨_ | ⟨n,ns⟩⟩
     . rfl
     . rfl
     . exact Y8x hx
   . rw [h1]
def Z9l (t:Tree) (x y:ByteArray):List Int -> Option Tree
 | n :: ns=>Q2e t (dat x) (dat y) n ns
 | []=>none
theorem Z1y {x y:ByteArray} {r:List ByteArray} {s:ByteArray} (h:Q2u 32 s = x :: y :: r) (t:Tree) {l:List Int} (hi:Z1t (false || emB x || emB y) r l false):Q0z t (dat s) = Z9l t x y l:=by
 obtain ⟨h1,h2⟩:=hi.1 rfl;rw [X2u h,h2];rw [Bool.or_eq_false_iff] at h1;rw [if_neg (by rw [Bool.not_eq_true]; exact h1.2)]
 cases l <;> rfl
theorem X9s {w:World} {g:Nat} {ws:List ByteArray} {b:Bool} (h:Rd w g ws b):∃ cs,Blk w g 202 cs:=by
 obtain ⟨A,cap,h1,_⟩:=h;exact ⟨_,h1⟩
theorem X8d:Q5n.toList = [98,97,115,105,99]:=by simp [Q5n,go_sem]
theorem X8c:Q6h.toList = [99,97,117,115,101]:=by simp [Q6h,go_sem]
theorem Y1q:X0w.toList = [103,97,116,101]:=by simp [X0w,go_sem]
theorem Q8p {a b:ByteArray} (h:dat a = dat b):a = b:=ByteArray.ext (Array.toList_inj.1 h)
theorem Z0s {x k:ByteArray} {l:List UInt8} (hl:dat k = l) (h:¬ x = k):(dat x == l) = false:=by
 rw [beq_eq_false_iff_ne,<- hl];exact fun e=>h (Q8p e)
section
variable {t:Tree} {x y:ByteArray} {n:Int} {ns:List Int}
theorem X7g (hx:x = Q5n) (h1:ns = []) (h2:t.causes = []) (h3:t.gates = []):Q2e t (dat x) (dat y) n ns = some ⟨t.basics ++ [⟨y,n⟩],t.causes,t.gates⟩:=by
 unfold Q2e;rw [if_pos (by rw [hx,h1,h2,h3]; rfl)]
 rfl
theorem X7o (hx:x = Q6h) (h3:t.gates = []):Q2e t (dat x) (dat y) n ns = some ⟨t.basics,t.causes ++ [⟨y,n,ns⟩],t.gates⟩:=by
 unfold Q2e;rw [if_neg (by rw [hx]; exact Bool.false_ne_true),if_pos (by rw [hx,h3]; rfl)]
 rfl
theorem Y1h (hx:x = X0w):Q2e t (dat x) (dat y) n ns = some ⟨t.basics,t.causes,t.gates ++ [⟨y,n,ns⟩]⟩:=by
 unfold Q2e;rw [if_neg (by rw [hx]; exact Bool.false_ne_true),if_neg (by rw [hx]; exact Bool.false_ne_true),if_pos (by rw [hx]; rfl)]
 rfl
theorem Y0y (h1:¬ x = Q5n) (h2:¬ x = Q6h) (h3:¬ x = X0w):Q2e t (dat x) (dat y) n ns = none:=by
 unfold Q2e;rw [Z0s (show dat Q5n = Z0k from rfl) h1,Z0s (show dat Q6h = Z5k from rfl) h2,Z0s (show dat X0w = Z7y from rfl) h3]
 rfl
theorem X1b (hx:x = Q5n) (h:¬ (ns = [] /\ t.causes = [] /\ t.gates = [])):Q2e t (dat x) (dat y) n ns = none:=by
 unfold Q2e;have e:(dat x == Z0k && ns.isEmpty && t.causes.isEmpty && t.gates.isEmpty) = false:=by
  rw [<- Bool.not_eq_true,Bool.and_eq_true,Bool.and_eq_true,Bool.and_eq_true,List.isEmpty_iff,List.isEmpty_iff,List.isEmpty_iff];exact fun h1=>h ⟨h1.1.1.2,h1.1.2,h1.2⟩
 rw [e,hx];rfl
theorem X0c (hx:x = Q6h) (h:¬ t.gates = []):Q2e t (dat x) (dat y) n ns = none:=by
 unfold Q2e;have e:t.gates.isEmpty = false:=by rw [<- Bool.not_eq_true,List.isEmpty_iff]; exact h
 rw [e,hx];rfl
end
theorem Z4l (w:World) (M O:Nat) (t:Tree) (s:ByteArray) (m:Int) (hs:s.size <= 4096) (hp:Z5e Z1v w M O t) (hM:M <= w.heap.size) (hO:M <= O) (hm:w.cell? ⟨0,0,none⟩ = some (.int .i64 m)) (hn:t.basics.length + t.causes.length + t.gates.length <= 9000) :
    Calls Tryz.prog 84 #[.pointer (some ⟨O,0,none⟩),.string s] w fun e w'=>Y0a w M O t (dat s) e w':=by
 obtain ⟨ib,hib,hzb0,hzb1,hzb2⟩:=info_parts Tryz.Z6v;obtain ⟨ic,hic,hzc0,hzc1,hzc2⟩:=info_parts Tryz.Z5v;obtain ⟨ig,hig,hzg0,hzg1,hzg2⟩:=info_parts Tryz.Z5z;obtain ⟨vb,vc,vg,LC,LG,hpt⟩:=hp;obtain ⟨Ab,cb,rfl,_⟩:=hpt.bas.shape;obtain ⟨Ac,cc,hvc,_⟩:=hpt.cau.shape;obtain ⟨Ag,cg,hvg,_⟩:=hpt.gat.shape;subst hvc hvg;have hnc:LC.length = t.causes.length:=by rw [hpt.tc.1,List.length_map]
 have hng:LG.length = t.gates.length:=by rw [hpt.tg.1,List.length_map]
 have HLN:Hid (LC.length <= 9000 /\ LG.length <= 9000):=Lib.hid (by omega)
 obtain ⟨nc,hnc2⟩:∃ n,LC.length = n:=⟨_,rfl⟩;obtain ⟨ng,hng2⟩:∃ n,LG.length = n:=⟨_,rfl⟩;rw [hnc2] at hpt hnc;rw [hng2] at hpt hng;have HNC:=Lib.hid hnc;have HNG:=Lib.hid hng;have HPT:=Lib.hid hpt;have HOK:=Lib.hid Z1v.ok;have hncl:nc <= 9000:=by omega
 have hngl:ng <= 9000:=by omega
 have hnbl:t.basics.length <= 9000:=by omega
 have hpl:(Q2u 32 s).length <= 5000:=by
  have h:=X1r 32 s.data.toList;have h2:s.data.toList.length = s.size:=Array.length_toList;unfold Q2u;rw [List.length_map];omega
 have hpe:∀ x ∈ Q2u 32 s,x.size <= 4096:=by
  intro x hx;unfold Q2u at hx;obtain ⟨l,hl,rfl⟩:=List.mem_map.1 hx;have h:=Q6l 32 s.data.toList l hl;have h2:s.data.toList.length = s.size:=Array.length_toList;have h3:(⟨l.toArray⟩:ByteArray).size = l.length:=by show l.toArray.size = _; simp
  omega
 obtain ⟨x,r,hws⟩:=Q8g 32 s;rw [hws] at hpl hpe;have HWS:=Lib.hid hws;have HPE:=Lib.hid hpe;clear hpt hnc2 hng2 hnc hng hpe hn;go_enter Tryz.func84,Tryz.ntmps84;go_wp2_with fail;refine (Y7b w s 32 m (by omega) hm).mono ?_
 rintro e w1 ⟨rfl,hw1⟩;have hb1:Blk w1 w.heap.size 9 ((x :: r).map Value.string).toArray:=by rw [hw1,hws]; exact Blk.made _ _ _
 have hx1:Ext w w1:=by rw [hw1]; exact Ext.box _ _
 have HB1:=Lib.hid hb1;have HX1:=Lib.hid hx1;rw [hws];obtain ⟨N,hN⟩:∃ N,(x :: r).length = N:=⟨_,rfl⟩;rw [hN];have HN:=Lib.hid hN;clear hb1 hx1 hw1 hws hm;go_wp2_with fail;have hrd:Rd (w1.alloc (.cells #[.slice (some ⟨w.heap.size,0,none⟩) N N,.bool false] 202)) w1.heap.size (x :: r) false:=by
  refine ⟨_,N,by rw [hN]; exact Blk.made _ _ _,by omega,by omega,by omega,.inr ⟨w.heap.size,0,_,rfl,HB1.out.ext (Ext.box _ _),fun k h=>?_⟩⟩
  rw [Nat.zero_add];have h2:k < ((x :: r).map Value.string).length:=by simpa using h
  rw [List.getElem?_toArray,List.getElem?_eq_getElem h2,List.getElem_map]
 have hx2:=Ext.box w1 (.cells #[.slice (some ⟨w.heap.size,0,none⟩) N N,.bool false] 202);obtain ⟨w2,hw2⟩:∃ X,w1.alloc (.cells #[.slice (some ⟨w.heap.size,0,none⟩) N N,.bool false] 202) = X:=⟨_,rfl⟩;obtain ⟨g,hg⟩:∃ g,w1.heap.size = g:=⟨_,rfl⟩;rw [hw2,hg] at hrd;rw [hw2] at hx2;rw [hw2,hg];have hgM:M <= g:=by have:=HX1.out.size; omega
 have HXA:=Lib.hid (HX1.out.trans hx2);have HR2:=Lib.hid hrd;have HP2:=Lib.hid (HPT.out.ext HXA.out);clear hrd hx2 hw2 hg hN HB1 HX1 HPT;refine (X6i w2 g x r false HR2.out).mono ?_;rintro e w3 ⟨rfl,hr3,ho3⟩;obtain ⟨cs2,hk2⟩:=X9s HR2.out;have HP3:=Lib.hid (HP2.out.keep (T:=202) (by decide) (by decide) (by decide) (by decide) (by decide) (Keep.store hk2 ho3.2))
 have HBW3:=Lib.hid ((HXA.out.below hM).trans (ho3.1 M hgM));have HR3:=Lib.hid hr3;have hs3:w.heap.size <= w3.heap.size:=Nat.le_trans HXA.out.size (ho3.1 0 (Nat.zero_le _)).size;clear hr3 ho3 hk2 HP2 HXA HR2;cases r with
 | nil =>
   have HNO:=Lib.hid (Z5b HWS.out t);go_wp2_with fail;refine (Z2o w3 g _ HR3.out).mono ?_;rintro e w4 ⟨rfl,hr4,ho4⟩;have HBW4:=Lib.hid (HBW3.out.trans (ho4.1 M hgM));have HR4:=Lib.hid hr4;clear hr4 ho4;go_wp2_with fail;refine (X3k w4 g [] true HR4.out (fun x hx=>by cases hx)).mono ?_
   rintro e w5 ⟨v,l,q,rfl,hown,hrd,hll,hir,hoff⟩;have hq:q = true:=by
    cases q with
    | true=>rfl
    | false=>exact absurd (hir.1 rfl).1 (by decide)
   subst hq;obtain ⟨A5,cap5,hb5,_⟩:=hrd;have c1:=hb5.cell 1;simp only [Go.Tw.gA,Go.Tw.gB,Go.Tw.gC] at c1;have HBW5:=Lib.hid (HBW4.out.trans (hoff.1.mono hgM));obtain ⟨Ao,co,rfl,_,_⟩:=Q5q hown;clear hown hll hir hoff hb5;go_wp2;go_ret;exact X0n HBW5.out HNO.out
 | cons y r2 =>
   go_wp2_with fail;refine (X6i w3 g y r2 _ HR3.out).mono ?_;rintro e w4 ⟨rfl,hr4,ho4⟩;obtain ⟨cs3,hk3⟩:=X9s HR3.out;have HP4:=Lib.hid (HP3.out.keep (T:=202) (by decide) (by decide) (by decide) (by decide) (by decide) (Keep.store hk3 ho4.2))
   have HBW4:=Lib.hid (HBW3.out.trans (ho4.1 M hgM));have HR4:=Lib.hid hr4;have hs4:w.heap.size <= w4.heap.size:=Nat.le_trans hs3 (ho4.1 0 (Nat.zero_le _)).size;clear hr4 ho4 hk3 HP3 HR3 HBW3;go_wp2_with fail;refine (X3k w4 g r2 _ HR4.out (fun z hz=>by have:=HPE.out z (List.mem_cons_of_mem _ (List.mem_cons_of_mem _ hz)); omega)).mono ?_
   rintro e w5 ⟨v,l,q,rfl,hown,hrd,hll,hir,hoff⟩;obtain ⟨cs4,hk4⟩:=X9s HR4.out;have HP5:=Lib.hid (HP4.out.keep (T:=202) (by decide) (by decide) (by decide) (by decide) (by decide) (Z2v hoff hk4))
   have HBW:=Lib.hid (HBW4.out.trans (hoff.1.mono hgM));have hMw:M <= w5.heap.size:=by have:=hoff.2.1; omega
   have hll2:l.length <= 5000:=by simp only [List.length_cons] at hpl; omega
   obtain ⟨A5,cap5,hb5,_⟩:=hrd;have c1:=hb5.cell 1;simp only [Go.Tw.gA,Go.Tw.gB,Go.Tw.gC] at c1;clear hll hoff hb5 hk4 HP4 HR4 HBW4;cases q with
   | true =>
     have HNO:=Lib.hid (Z1z HWS.out t hir);obtain ⟨Ao,co,rfl,_,_⟩:=Q5q hown;clear hown hir;go_wp2;go_ret;exact X0n HBW.out HNO.out
   | false =>
     have hrr:=Z1y HWS.out t hir;cases l with
     | nil =>
       have HNO:Hid (Q0z t (dat s) = none):=Lib.hid hrr;obtain ⟨Ao,co,rfl,_,_⟩:=Q5q hown;clear hown hir hrr;go_wp2;go_ret;exact X0n HBW.out HNO.out
     | cons n ns =>
       have HRR:Hid (Q0z t (dat s) = Q2e t (dat x) (dat y) n ns):=Lib.hid hrr;obtain ⟨N2,hN2⟩:∃ N,(n :: ns).length = N:=⟨_,rfl⟩;have hN3:N2 = ns.length + 1:=by rw [<- hN2]; rfl
       obtain ⟨gn,cn,rfl⟩:∃ gn cn,v = .slice (some ⟨gn,0,none⟩) N2 cn:=by
        rcases hown.2 with ⟨_,h0⟩ | ⟨g',cap',cur',hv,_⟩
        . cases h0
        . exact ⟨g',cap',by rw [hv,hN2]⟩
       have HOW:=Lib.hid hown;have HN0:Hid (w5.cell? ⟨gn,0,none⟩ = some (.int .i64 n)):=Lib.hid (by
        rcases hown.cells2 with ⟨_,h0⟩ | ⟨g',c',hv,_,_,_,hc⟩
        . cases h0
        . injection hv with h1 _ _
          injection h1 with h1;injection h1 with h1;subst h1;have:=hc 0 (by simp)
          exact this)
       have hnn:ns.length <= 5000:=by simp only [List.length_cons] at hll2; omega
       have HNL:=Lib.hid hN3;have HNS:Hid (ns.length <= 10000):=Lib.hid (by omega)
       have HSH:Hid (Short y):=Lib.hid (by have:=HPE.out y (by simp); unfold Short; omega)
       have c2:=HP5.out.blk.cell 1;have c3:=HP5.out.blk.cell 2;simp only [Go.Tw.gA,Go.Tw.gB,Go.Tw.gC] at c2 c3;have hn0:((N2:Int) == 0) = false:=by rw [beq_eq_false_iff_ne]; omega
       have hn9:(0:Int) < N2:=by omega
       have hn7:¬ N2 = 0:=by omega
       have hn8:(1:Int) <= N2:=by omega
       have HPT:=Lib.hid HP5.out;have hdr:=(Ext.refl w5).drew;have HBX:=Lib.hid HBW.out;clear hown hir hrr hN2 hN3 hll2 HP5;go_wp2;have hwr:IntKind.i64.wrap ((nc:Int) + (ng:Int)) = (nc:Int) + (ng:Int):=Q3v _ (by omega) (by omega)
       by_cases hx1:x = Q5n
       . have hne:True:=trivial
         by_cases hq1:N2 = 1
         . have hl1:((N2:Int) == 1) = true:=by rw [beq_iff_eq]; omega
           by_cases hq2:nc + ng = 0
           . have hz:((nc:Int) + (ng:Int) == 0) = true:=by rw [beq_iff_eq]; omega
             have HYS:Hid (Q0z t (dat s) = some ⟨t.basics ++ [⟨y,n⟩],t.causes,t.gates⟩):=Lib.hid (by rw [HRR.out]; exact X7g hx1 (List.length_eq_zero_iff.1 (by have:=HNL.out; omega)) (List.length_eq_zero_iff.1 (by have:=HNC.out; omega)) (List.length_eq_zero_iff.1 (by have:=HNG.out; omega)))
             obtain rfl:x = ⟨#[98,97,115,105,99]⟩:=hx1;clear hq1 hq2
             go_quiet (fail)
             replace hdr:=((Ext.refl w5).drewN nq).drew;replace HBW:=Lib.hid (HBW.out.trans (((Ext.refl w5).drewN nq).below hMw));go_wp2;refine Flow.Q3x [.p,.p,.p,.p,.w,.p,.p,.p,.w,.p,.w,.last,.last,.last,.last] [0,1,2,3,4,5,6,7,8,9,10,11,12,13,14] [[],[],[1],[1,2],[1,2,3],[],[],[6],[6,7],[5,6,7,8],[5,6,7,8,9],[1,2,3,4,5,6,7,8,9,10],[0,1,2,3,4,5,6,7,8,9,10,11],[0,1,2,3,4,5,6,7,8,9,10,11,12],[0,1,2,3,4,5,6,7,8,9,10,11,12,13]] [11,12,13,14]
              [.c 0 (.pointer (some ⟨O,0,none⟩)),.c 1 (.pointer (some ⟨O,0,none⟩)),.c 2 (.pointer (some ⟨O,0,none⟩)),.c 3 (.pointer (some ⟨O,0,none⟩)),.c 4 (.slice Ab t.basics.length cb),.c 5 (.string y),.c 6 (.slice (some ⟨gn,0,none⟩) N2 cn),.c 7 (.pointer (some ⟨gn,0,none⟩)),.c 8 (.int .i64 n),.c 9 (.agg #[.string y,.int .i64 n]),⟨fun v wz=>(fun v w'=>∃ g,v 10 = .slice (some ⟨g,0,none⟩) 1 1 /\ Blk w' g 103 #[.string y,.int .i64 n]) v wz,by rintro v a b hx ⟨g,h1,h2⟩; exact ⟨g,h1,h2.ext hx⟩⟩,.none,.none,.none,.none]
              [fun v w1 w'=>Q1o w' M 103 2 X0z (v 11) (t.basics ++ [⟨y,n⟩]) /\ Keep 103 w1 w' /\ Below M w1 w',fun v w1 w'=>v 12 = .pointer (some ⟨O,0,none⟩) /\ Q1o w' M 103 2 X0z (v 11) (t.basics ++ [⟨y,n⟩]) /\ Keep 103 w1 w' /\ Below M w1 w',fun v w1 w'=>v 13 = .pointer (some ⟨O,0,none⟩) /\ Q1o w' M 103 2 X0z (v 11) (t.basics ++ [⟨y,n⟩]) /\ Keep 103 w1 w' /\ Below M w1 w',fun v w1 w'=>∃ x wm,Q1o wm M 103 2 X0z x (t.basics ++ [⟨y,n⟩]) /\ Keep 103 w1 wm /\ Below M w1 wm /\ w' = wm.setCell ⟨O,0,none⟩ x] (by kernel_rfl) rfl (by kernel_rfl) ⟨?g0,?g1,?g2,?g3,?g4,?g5,?g6,?g7,?g8,?g9,?g10,?g11,?g12,?g13,?g14,trivial⟩ ?post
             case g0 | g1 | g5 | g6=>
              intro v w1 hx;intro bb hbb;subst hbb;refine ⟨_,fun w=>?_,rfl⟩;go_simp
             case g2 | g3 | g7 | g9=>
              intro v w1 hx;(repeat intro (zq:v _ = _));intro bb hbb;subst hbb;refine ⟨_,fun w=>?_,rfl⟩;go_simp
             case g4 | g8=>
              intro v w1 hx;(repeat intro (zq:v _ = _));intro bb hbb;subst hbb;have n0:w1.cell? ⟨O,0,none⟩ = some (.slice Ab t.basics.length cb):=(HPT.out.blk.ext (hdr.trans hx)).cell 0;have n1:w1.cell? ⟨gn,0,none⟩ = some (.int .i64 n):=(hdr.trans hx).cell HN0.out;intro K hK;go_simp;exact hK _ _ (Ext.refl _) rfl
             case g10=>
              intro v w1 hx;(repeat intro (zq:v _ = _));intro bb hbb;subst hbb;intro K hK;go_simp;exact hK _ _ (Ext.box _ _) ⟨_,rfl,Blk.made _ _ _⟩
             case g11=>
              intro v w1 hx (q1:v 1 = _) (q2:v 2 = _) (q3:v 3 = _) (q4:v 4 = _) (q5:v 5 = _) (q6:v 6 = _) (q7:v 7 = _) (q8:v 8 = _) (q9:v 9 = _) (q10:(fun v w'=>∃ g,v 10 = .slice (some ⟨g,0,none⟩) 1 1 /\ Blk w' g 103 #[.string y,.int .i64 n]) v w1);intro wl hT;obtain rfl:wl = w1:=hT;intro bb hbb;intro K hK;obtain ⟨g,hg10,hb10⟩:=q10;have o1:bb.eval (.tmp 54) = .slice Ab t.basics.length cb:=by rw [hbb]; dsimp only; (try simp (discharger:=decide) only [eval_put_ne]); rw [Q0a (by simp only [size_put]; exact (by decide:54 < 110))]; exact q4
              have o2:bb.eval (.tmp 60) = .slice (some ⟨g,0,none⟩) 1 1:=by rw [hbb]; dsimp only; (try simp (discharger:=decide) only [eval_put_ne]); rw [Q0a (by simp only [size_put]; exact (by decide:60 < 110))]; exact hg10
              have hxx:=hdr.trans hx;exact Q4h _ _ 29 rfl M 103 ib (.agg #[.string emp,.int .i64 0]) 2 24 Tryz.underlying29 hib hzb0 hzb1 hzb2 rfl (by decide) X0z Q9y _ (t.basics) ⟨y,n⟩ o1 (.inl (HPT.out.bas.below hxx)) ⟨g,0,none⟩ o2 (Q4s hb10) (by intro u hu; simp only [X0z,List.mem_cons,List.not_mem_nil,or_false] at hu; rcases hu with rfl | rfl <;> rfl) (by omega) (by decide) (by have:=hxx.size; omega) (fun v' w' h1 h2 h3=>hK _ _ ⟨h1,h2,h3⟩)
             case g12=>
              intro v w1 hx (q0:v 0 = _) (q1:v 1 = _) (q2:v 2 = _) (q3:v 3 = _) (q4:v 4 = _) (q5:v 5 = _) (q6:v 6 = _) (q7:v 7 = _) (q8:v 8 = _) (q9:v 9 = _) _;intro wl hT;replace hT:(fun v w1 w'=>Q1o w' M 103 2 X0z (v 11) (t.basics ++ [⟨y,n⟩]) /\ Keep 103 w1 w' /\ Below M w1 w') v w1 wl:=hT;intro bb hbb;intro K hK;have o1:bb.eval (.tmp 50) = .pointer (some ⟨O,0,none⟩):=by rw [hbb]; dsimp only; (try simp (discharger:=decide) only [eval_put_ne]); rw [Q0a (by simp only [size_put]; exact (by decide:50 < 110))]; exact q0
              unfold execOp;simp only [o1];clear o1 hbb;go_simp;exact hK _ _ ⟨rfl,hT⟩
             case g13=>
              intro v w1 hx (q0:v 0 = _) (q1:v 1 = _) (q2:v 2 = _) (q3:v 3 = _) (q4:v 4 = _) (q5:v 5 = _) (q6:v 6 = _) (q7:v 7 = _) (q8:v 8 = _) (q9:v 9 = _) _;intro wl hT;replace hT:(fun v w1 w'=>v 12 = .pointer (some ⟨O,0,none⟩) /\ Q1o w' M 103 2 X0z (v 11) (t.basics ++ [⟨y,n⟩]) /\ Keep 103 w1 w' /\ Below M w1 w') v w1 wl:=hT;intro bb hbb;intro K hK;obtain ⟨hT0,hT⟩:=hT;have o1:bb.eval (.tmp 62) = .pointer (some ⟨O,0,none⟩):=by rw [hbb]; dsimp only; (try simp (discharger:=decide) only [eval_put_ne]); rw [Q0a (by simp only [size_put]; exact (by decide:62 < 110))]; exact hT0
              unfold execOp;simp only [o1];clear o1 hbb;go_simp;exact hK _ _ ⟨rfl,hT⟩
             case g14=>
              intro v w1 hx (q0:v 0 = _) (q1:v 1 = _) (q2:v 2 = _) (q3:v 3 = _) (q4:v 4 = _) (q5:v 5 = _) (q6:v 6 = _) (q7:v 7 = _) (q8:v 8 = _) (q9:v 9 = _) _;intro wl hT;replace hT:(fun v w1 w'=>v 13 = .pointer (some ⟨O,0,none⟩) /\ Q1o w' M 103 2 X0z (v 11) (t.basics ++ [⟨y,n⟩]) /\ Keep 103 w1 w' /\ Below M w1 w') v w1 wl:=hT;intro bb hbb;intro K hK;obtain ⟨hT0,hT1,hT2,hT3⟩:=hT;have hxx:=hdr.trans hx;obtain ⟨bp,cp,hsh,_⟩:=hT1.shape;have o1:bb.eval (.tmp 63) = .pointer (some ⟨O,0,none⟩):=by rw [hbb]; dsimp only; (try simp (discharger:=decide) only [eval_put_ne]); rw [Q0a (by simp only [size_put]; exact (by decide:63 < 110))]; exact hT0
              have o2:bb.eval (.tmp 61) = v 11:=by rw [hbb]; dsimp only; (try simp (discharger:=decide) only [eval_put_ne]); rw [Q0a (by simp only [size_put]; exact (by decide:61 < 110))]
              have hbl:=hT2 _ _ _ (by decide) (HPT.out.blk.ext hxx)
              exact Q2l _ _ rfl Tryz.X5f (g:=O) (k:=0) o1 o2 (by rw [hsh]; rfl) (by rw [hsh]; rfl) hbl (by show 0 < 3; omega) (fun v'=>hK _ _ ⟨v 11,wl,hT1,hT2,hT3,rfl⟩)
             case post =>
              intro v w1 hx;(iterate 10 intro (zq:v _ = _));intro (q10:(fun v w'=>∃ g,v 10 = .slice (some ⟨g,0,none⟩) 1 1 /\ Blk w' g 103 #[.string y,.int .i64 n]) v w1);intro w2 hE;replace hE:(fun v w1 w'=>∃ x wm,Q1o wm M 103 2 X0z x (t.basics ++ [⟨y,n⟩]) /\ Keep 103 w1 wm /\ Below M w1 wm /\ w' = wm.setCell ⟨O,0,none⟩ x) v w1 w2:=hE;simp only [Flow.acts,Act.put];go_simp;obtain ⟨x9,wm,hom,hkm,hbm,rfl⟩:=hE;have hxx:=hdr.trans hx;have hfin:=X0y.J0g HOK.out (HPT.out.ext hxx) hom hkm HSH.out;have HFIN:=Lib.hid hfin;have HBF:=Lib.hid (Below.setCell ((HBX.out.trans (hxx.below (by omega))).trans hbm) (p:=⟨O,0,none⟩) (by show M <= O; omega) x9)
              clear hom hkm hbm hfin hxx hx hdr q10;(repeat clear zq);go_wp2;go_ret;exact Y0e HBF.out HYS.out ⟨_,_,_,_,_,HFIN.out⟩
           . have hz:((nc:Int) + (ng:Int) == 0) = false:=by rw [beq_eq_false_iff_ne]; omega
             have HNO:Hid (Q0z t (dat s) = none):=Lib.hid (by rw [HRR.out]; exact X1b hx1 (fun h=>hq2 (by have:=HNC.out; have:=HNG.out; rw [h.2.1] at *; rw [h.2.2] at *; simp_all)))
             obtain rfl:x = ⟨#[98,97,115,105,99]⟩:=hx1;clear hq1 hq2
             go_quiet (fail)
             replace hdr:=((Ext.refl w5).drewN nq).drew;replace HBW:=Lib.hid (HBW.out.trans (((Ext.refl w5).drewN nq).below hMw));go_wp2;go_ret;exact X0n HBW.out HNO.out
         . have hl1:((N2:Int) == 1) = false:=by rw [beq_eq_false_iff_ne]; omega
           have HNO:Hid (Q0z t (dat s) = none):=Lib.hid (by rw [HRR.out]; exact X1b hx1 (fun h=>hq1 (by rw [HNL.out,h.1]; rfl)))
           obtain rfl:x = ⟨#[98,97,115,105,99]⟩:=hx1;clear hq1
           go_quiet (fail)
           replace hdr:=((Ext.refl w5).drewN nq).drew;replace HBW:=Lib.hid (HBW.out.trans (((Ext.refl w5).drewN nq).below hMw));go_wp2;go_ret;exact X0n HBW.out HNO.out
       . have e1:=Q4d X8d hx1
         by_cases hx2:x = Q6h
         . have hne:True:=trivial
           by_cases hq2:ng = 0
           . have hz:((ng:Int) == 0) = true:=by rw [beq_iff_eq]; omega
             have HYS:Hid (Q0z t (dat s) = some ⟨t.basics,t.causes ++ [⟨y,n,ns⟩],t.gates⟩):=Lib.hid (by rw [HRR.out]; exact X7o hx2 (List.length_eq_zero_iff.1 (by have:=HNG.out; omega)))
             obtain rfl:x = ⟨#[99,97,117,115,101]⟩:=hx2;clear hx1 hq2 hwr e1
             go_quiet (fail)
             replace hdr:=((Ext.refl w5).drewN nq).drew;replace HBW:=Lib.hid (HBW.out.trans (((Ext.refl w5).drewN nq).below hMw));go_wp2;refine Flow.Q3x [.p,.p,.p,.p,.w,.p,.p,.p,.w,.p,.p,.p,.w,.last,.last,.last,.last] [0,1,2,3,4,5,6,7,8,9,10,11,12,13,14,15,16] [[],[],[1],[1,2],[1,2,3],[],[],[6],[6,7],[],[9],[5,6,7,8,9,10],[5,6,7,8,9,10,11],[1,2,3,4,5,6,7,8,9,10,11,12],[0,1,2,3,4,5,6,7,8,9,10,11,12,13],[0,1,2,3,4,5,6,7,8,9,10,11,12,13,14],[0,1,2,3,4,5,6,7,8,9,10,11,12,13,14,15]] [13,14,15,16]
              [.c 0 (.pointer (some ⟨O,0,none⟩)),.c 1 (.pointer (some ⟨O,0,none⟩)),.c 2 (.pointer (some ⟨O,0,none⟩)),.c 3 (.pointer (some ⟨O,1,none⟩)),.c 4 (.slice Ac nc cc),.c 5 (.string y),.c 6 (.slice (some ⟨gn,0,none⟩) N2 cn),.c 7 (.pointer (some ⟨gn,0,none⟩)),.c 8 (.int .i64 n),.c 9 (.slice (some ⟨gn,0,none⟩) N2 cn),⟨fun v wz=>(fun v w'=>Q2j w' (v 10) ns) v wz,fun _ _ _ hx h=>Q2j.ext h hx⟩,⟨fun v wz=>(fun v w'=>v 11 = .agg #[.string y,.int .i64 n,v 10]) v wz,by intro _ _ _ _ h; exact h⟩,⟨fun v wz=>(fun v w'=>∃ g,v 12 = .slice (some ⟨g,0,none⟩) 1 1 /\ Blk w' g 106 (enc3 (y,n,v 10)).toArray) v wz,by rintro v a b hx ⟨g,h1,h2⟩; exact ⟨g,h1,h2.ext hx⟩⟩,.none,.none,.none,.none]
              [fun v w1 w'=>Q1o w' M 106 3 enc3 (v 13) (LC ++ [(y,n,v 10)]) /\ Keep 106 w1 w' /\ Below M w1 w',fun v w1 w'=>v 14 = .pointer (some ⟨O,0,none⟩) /\ Q1o w' M 106 3 enc3 (v 13) (LC ++ [(y,n,v 10)]) /\ Keep 106 w1 w' /\ Below M w1 w',fun v w1 w'=>v 15 = .pointer (some ⟨O,1,none⟩) /\ Q1o w' M 106 3 enc3 (v 13) (LC ++ [(y,n,v 10)]) /\ Keep 106 w1 w' /\ Below M w1 w',fun v w1 w'=>∃ x wm,Q1o wm M 106 3 enc3 x (LC ++ [(y,n,v 10)]) /\ Keep 106 w1 wm /\ Below M w1 wm /\ w' = wm.setCell ⟨O,1,none⟩ x] (by kernel_rfl) rfl (by kernel_rfl) ⟨?g0,?g1,?g2,?g3,?g4,?g5,?g6,?g7,?g8,?g9,?g10,?g11,?g12,?g13,?g14,?g15,?g16,trivial⟩ ?post
             case g0 | g1 | g5 | g6 | g9=>
              intro v w1 hx;intro bb hbb;subst hbb;refine ⟨_,fun w=>?_,rfl⟩;go_simp
             case g2 | g3 | g7=>
              intro v w1 hx;(repeat intro (zq:v _ = _));intro bb hbb;subst hbb;refine ⟨_,fun w=>?_,rfl⟩;go_simp
             case g4 | g8=>
              intro v w1 hx;(repeat intro (zq:v _ = _));intro bb hbb;subst hbb;have n0:w1.cell? ⟨O,1,none⟩ = some (.slice Ac nc cc):=(HPT.out.blk.ext (hdr.trans hx)).cell 1;have n1:w1.cell? ⟨gn,0,none⟩ = some (.int .i64 n):=(hdr.trans hx).cell HN0.out;intro K hK;go_simp;exact hK _ _ (Ext.refl _) rfl
             case g10=>
              intro v w1 hx;(repeat intro (zq:v _ = _));intro bb hbb;have o1:bb.eval (.tmp 84) = .slice (some ⟨gn,0,none⟩) N2 cn:=by rw [hbb]; dsimp only; (try simp (discharger:=decide) only [eval_put_ne]); rw [Q0a (by simp only [size_put]; exact (by decide:84 < 110))]; assumption
              exact Q8k rfl o1 (HOW.out.below (hdr.trans hx)) HNL.out HNS.out
             case g11=>
              intro v w1 hx (q5:v 5 = _) (q6:v 6 = _) (q7:v 7 = _) (q8:v 8 = _) (q9:v 9 = _) (q10:(fun v w'=>Q2j w' (v 10) ns) v w1);intro bb hbb;obtain ⟨s9,c9,e9,_⟩:=q10;have o1:bb.eval (.tmp 80) = .string y:=by rw [hbb]; dsimp only; (try simp (discharger:=decide) only [eval_put_ne]); rw [Q0a (by simp only [size_put]; exact (by decide:80 < 110))]; exact q5
              have o2:bb.eval (.tmp 83) = .int .i64 n:=by rw [hbb]; dsimp only; (try simp (discharger:=decide) only [eval_put_ne]); rw [Q0a (by simp only [size_put]; exact (by decide:83 < 110))]; exact q8
              have o3:bb.eval (.tmp 85) = v 10:=by rw [hbb]; dsimp only; (try simp (discharger:=decide) only [eval_put_ne]); rw [Q0a (by simp only [size_put]; exact (by decide:85 < 110))]
              rw [e9] at o3;exact ⟨_,fun w=>Q4j _ (.tmp 80) (.tmp 83) (.tmp 85) rfl o1 o2 o3 (fun w=>Q6s w _ _ _ _ _),by show Value.agg #[.string y,.int .i64 n,.slice s9 _ c9] = Value.agg #[.string y,.int .i64 n,v 10]; rw [e9]⟩
             case g12=>
              intro v w1 hx (q5:v 5 = _) (q6:v 6 = _) (q7:v 7 = _) (q8:v 8 = _) (q9:v 9 = _) (q10:(fun v w'=>Q2j w' (v 10) ns) v w1) (q11:(fun v w'=>v 11 = .agg #[.string y,.int .i64 n,v 10]) v w1);intro bb hbb;intro K hK;obtain ⟨s9,c9,e9,_⟩:=q10;have o1:bb.eval (.tmp 86) = .agg #[.string y,.int .i64 n,v 10]:=by rw [hbb]; dsimp only; (try simp (discharger:=decide) only [eval_put_ne]); rw [Q0a (by simp only [size_put]; exact (by decide:86 < 110))]; exact q11
              rw [e9] at o1;have hbl:Blk (w1.alloc (.cells (Value.agg #[.string y,.int .i64 n,.slice s9 ns.length c9]).cells 106)) w1.heap.size 106 (enc3 (y,n,v 10)).toArray:=by rw [e9]; exact Blk.made _ _ _
              exact Q2y 30 106 (.tmp 86) rfl o1 (X3g w1 _ _ _ _ _) (hK _ _ (Ext.box _ _) ⟨_,rfl,hbl⟩)
             case g13=>
              intro v w1 hx (q1:v 1 = _) (q2:v 2 = _) (q3:v 3 = _) (q4:v 4 = _) (q5:v 5 = _) (q6:v 6 = _) (q7:v 7 = _) (q8:v 8 = _) (q9:v 9 = _) (q10:(fun v w'=>Q2j w' (v 10) ns) v w1) _ (q12:(fun v w'=>∃ g,v 12 = .slice (some ⟨g,0,none⟩) 1 1 /\ Blk w' g 106 (enc3 (y,n,v 10)).toArray) v w1);intro wl hT;obtain rfl:wl = w1:=hT;intro bb hbb;intro K hK;obtain ⟨s9,c9,e9,_⟩:=q10;obtain ⟨g,hg10,hb10⟩:=q12;have o1:bb.eval (.tmp 79) = .slice Ac nc cc:=by rw [hbb]; dsimp only; (try simp (discharger:=decide) only [eval_put_ne]); rw [Q0a (by simp only [size_put]; exact (by decide:79 < 110))]; exact q4
              have o2:bb.eval (.tmp 87) = .slice (some ⟨g,0,none⟩) 1 1:=by rw [hbb]; dsimp only; (try simp (discharger:=decide) only [eval_put_ne]); rw [Q0a (by simp only [size_put]; exact (by decide:87 < 110))]; exact hg10
              have hxx:=hdr.trans hx;exact Q4h _ _ 30 rfl M 106 ic (.agg #[.string emp,.int .i64 0,.slice none 0 0]) 3 48 Tryz.underlying30 hic hzc0 hzc1 hzc2 rfl (by decide) enc3 Q0u _ (LC) (y,n,v 10) o1 (.inl (HPT.out.cau.below hxx)) ⟨g,0,none⟩ o2 (Q4s hb10) (by rw [e9]; exact Q9r) (by have:=HLN.out; omega) (by decide) (by have:=hxx.size; omega) (fun v' w' h1 h2 h3=>hK _ _ ⟨h1,h2,h3⟩)
             case g14=>
              intro v w1 hx (q0:v 0 = _) (q1:v 1 = _) (q2:v 2 = _) (q3:v 3 = _) (q4:v 4 = _) (q5:v 5 = _) (q6:v 6 = _) (q7:v 7 = _) (q8:v 8 = _) (q9:v 9 = _) _ _ _;intro wl hT;replace hT:(fun v w1 w'=>Q1o w' M 106 3 enc3 (v 13) (LC ++ [(y,n,v 10)]) /\ Keep 106 w1 w' /\ Below M w1 w') v w1 wl:=hT;intro bb hbb;intro K hK;have o1:bb.eval (.tmp 75) = .pointer (some ⟨O,0,none⟩):=by rw [hbb]; dsimp only; (try simp (discharger:=decide) only [eval_put_ne]); rw [Q0a (by simp only [size_put]; exact (by decide:75 < 110))]; exact q0
              unfold execOp;simp only [o1];clear o1 hbb;go_simp;exact hK _ _ ⟨rfl,hT⟩
             case g15=>
              intro v w1 hx (q0:v 0 = _) (q1:v 1 = _) (q2:v 2 = _) (q3:v 3 = _) (q4:v 4 = _) (q5:v 5 = _) (q6:v 6 = _) (q7:v 7 = _) (q8:v 8 = _) (q9:v 9 = _) _ _ _;intro wl hT;replace hT:(fun v w1 w'=>v 14 = .pointer (some ⟨O,0,none⟩) /\ Q1o w' M 106 3 enc3 (v 13) (LC ++ [(y,n,v 10)]) /\ Keep 106 w1 w' /\ Below M w1 w') v w1 wl:=hT;intro bb hbb;intro K hK;obtain ⟨hT0,hT⟩:=hT;have o1:bb.eval (.tmp 89) = .pointer (some ⟨O,0,none⟩):=by rw [hbb]; dsimp only; (try simp (discharger:=decide) only [eval_put_ne]); rw [Q0a (by simp only [size_put]; exact (by decide:89 < 110))]; exact hT0
              unfold execOp;simp only [o1];clear o1 hbb;go_simp;exact hK _ _ ⟨rfl,hT⟩
             case g16=>
              intro v w1 hx (q0:v 0 = _) (q1:v 1 = _) (q2:v 2 = _) (q3:v 3 = _) (q4:v 4 = _) (q5:v 5 = _) (q6:v 6 = _) (q7:v 7 = _) (q8:v 8 = _) (q9:v 9 = _) _ _ _;intro wl hT;replace hT:(fun v w1 w'=>v 15 = .pointer (some ⟨O,1,none⟩) /\ Q1o w' M 106 3 enc3 (v 13) (LC ++ [(y,n,v 10)]) /\ Keep 106 w1 w' /\ Below M w1 w') v w1 wl:=hT;intro bb hbb;intro K hK;obtain ⟨hT0,hT1,hT2,hT3⟩:=hT;have hxx:=hdr.trans hx;obtain ⟨bp,cp,hsh,_⟩:=hT1.shape;have o1:bb.eval (.tmp 90) = .pointer (some ⟨O,1,none⟩):=by rw [hbb]; dsimp only; (try simp (discharger:=decide) only [eval_put_ne]); rw [Q0a (by simp only [size_put]; exact (by decide:90 < 110))]; exact hT0
              have o2:bb.eval (.tmp 88) = v 13:=by rw [hbb]; dsimp only; (try simp (discharger:=decide) only [eval_put_ne]); rw [Q0a (by simp only [size_put]; exact (by decide:88 < 110))]
              have hbl:=hT2 _ _ _ (by decide) (HPT.out.blk.ext hxx)
              exact Q2l _ _ rfl Tryz.X4k (g:=O) (k:=1) o1 o2 (by rw [hsh]; rfl) (by rw [hsh]; rfl) hbl (by show 1 < 3; omega) (fun v'=>hK _ _ ⟨v 13,wl,hT1,hT2,hT3,rfl⟩)
             case post =>
              intro v w1 hx;(iterate 10 intro (zq:v _ = _));intro (q10:(fun v w'=>Q2j w' (v 10) ns) v w1) (q11:(fun v w'=>v 11 = .agg #[.string y,.int .i64 n,v 10]) v w1) (q12:(fun v w'=>∃ g,v 12 = .slice (some ⟨g,0,none⟩) 1 1 /\ Blk w' g 106 (enc3 (y,n,v 10)).toArray) v w1);intro w2 hE;replace hE:(fun v w1 w'=>∃ x wm,Q1o wm M 106 3 enc3 x (LC ++ [(y,n,v 10)]) /\ Keep 106 w1 wm /\ Below M w1 wm /\ w' = wm.setCell ⟨O,1,none⟩ x) v w1 w2:=hE;simp only [Flow.acts,Act.put];go_simp;obtain ⟨x9,wm,hom,hkm,hbm,rfl⟩:=hE;have hxx:=hdr.trans hx;have hfin:=X0y.J0f HOK.out (HPT.out.ext hxx) hom q10 hkm HSH.out;have HFIN:=Lib.hid hfin;have HBF:=Lib.hid (Below.setCell ((HBX.out.trans (hxx.below (by omega))).trans hbm) (p:=⟨O,1,none⟩) (by show M <= O; omega) x9)
              clear hom hkm hbm hfin hxx hx hdr q10 q11 q12;(repeat clear zq);go_wp2;go_ret;exact Y0e HBF.out HYS.out ⟨_,_,_,_,_,HFIN.out⟩
           . have hz:((ng:Int) == 0) = false:=by rw [beq_eq_false_iff_ne]; omega
             have HNO:Hid (Q0z t (dat s) = none):=Lib.hid (by rw [HRR.out]; exact X0c hx2 (fun h=>hq2 (by have:=HNG.out; rw [h] at this; exact this)))
             obtain rfl:x = ⟨#[99,97,117,115,101]⟩:=hx2;clear hx1 hq2 hwr e1
             go_quiet (fail)
             replace hdr:=((Ext.refl w5).drewN nq).drew;replace HBW:=Lib.hid (HBW.out.trans (((Ext.refl w5).drewN nq).below hMw));go_wp2;go_ret;exact X0n HBW.out HNO.out
         . have e2:=Q4d X8c hx2
           by_cases hx3:x = X0w
           . have HYS:Hid (Q0z t (dat s) = some ⟨t.basics,t.causes,t.gates ++ [⟨y,n,ns⟩]⟩):=Lib.hid (by rw [HRR.out]; exact Y1h hx3)
             obtain rfl:x = ⟨#[103,97,116,101]⟩:=hx3;clear hx1 hx2 hwr e1 e2
             go_quiet (fail)
             replace hdr:=((Ext.refl w5).drewN nq).drew;replace HBW:=Lib.hid (HBW.out.trans (((Ext.refl w5).drewN nq).below hMw));go_wp2;refine Flow.Q3x [.p,.p,.p,.p,.w,.p,.p,.p,.w,.p,.p,.p,.w,.last,.last,.last,.last] [0,1,2,3,4,5,6,7,8,9,10,11,12,13,14,15,16] [[],[],[1],[1,2],[1,2,3],[],[],[6],[6,7],[],[9],[5,6,7,8,9,10],[5,6,7,8,9,10,11],[1,2,3,4,5,6,7,8,9,10,11,12],[0,1,2,3,4,5,6,7,8,9,10,11,12,13],[0,1,2,3,4,5,6,7,8,9,10,11,12,13,14],[0,1,2,3,4,5,6,7,8,9,10,11,12,13,14,15]] [13,14,15,16]
              [.c 0 (.pointer (some ⟨O,0,none⟩)),.c 1 (.pointer (some ⟨O,0,none⟩)),.c 2 (.pointer (some ⟨O,0,none⟩)),.c 3 (.pointer (some ⟨O,2,none⟩)),.c 4 (.slice Ag ng cg),.c 5 (.string y),.c 6 (.slice (some ⟨gn,0,none⟩) N2 cn),.c 7 (.pointer (some ⟨gn,0,none⟩)),.c 8 (.int .i64 n),.c 9 (.slice (some ⟨gn,0,none⟩) N2 cn),⟨fun v wz=>(fun v w'=>Q2j w' (v 10) ns) v wz,fun _ _ _ hx h=>Q2j.ext h hx⟩,⟨fun v wz=>(fun v w'=>v 11 = .agg #[.string y,.int .i64 n,v 10]) v wz,by intro _ _ _ _ h; exact h⟩,⟨fun v wz=>(fun v w'=>∃ g,v 12 = .slice (some ⟨g,0,none⟩) 1 1 /\ Blk w' g 114 (enc3 (y,n,v 10)).toArray) v wz,by rintro v a b hx ⟨g,h1,h2⟩; exact ⟨g,h1,h2.ext hx⟩⟩,.none,.none,.none,.none]
              [fun v w1 w'=>Q1o w' M 114 3 enc3 (v 13) (LG ++ [(y,n,v 10)]) /\ Keep 114 w1 w' /\ Below M w1 w',fun v w1 w'=>v 14 = .pointer (some ⟨O,0,none⟩) /\ Q1o w' M 114 3 enc3 (v 13) (LG ++ [(y,n,v 10)]) /\ Keep 114 w1 w' /\ Below M w1 w',fun v w1 w'=>v 15 = .pointer (some ⟨O,2,none⟩) /\ Q1o w' M 114 3 enc3 (v 13) (LG ++ [(y,n,v 10)]) /\ Keep 114 w1 w' /\ Below M w1 w',fun v w1 w'=>∃ x wm,Q1o wm M 114 3 enc3 x (LG ++ [(y,n,v 10)]) /\ Keep 114 w1 wm /\ Below M w1 wm /\ w' = wm.setCell ⟨O,2,none⟩ x] (by kernel_rfl) rfl (by kernel_rfl) ⟨?g0,?g1,?g2,?g3,?g4,?g5,?g6,?g7,?g8,?g9,?g10,?g11,?g12,?g13,?g14,?g15,?g16,trivial⟩ ?post
             case g0 | g1 | g5 | g6 | g9=>
              intro v w1 hx;intro bb hbb;subst hbb;refine ⟨_,fun w=>?_,rfl⟩;go_simp
             case g2 | g3 | g7=>
              intro v w1 hx;(repeat intro (zq:v _ = _));intro bb hbb;subst hbb;refine ⟨_,fun w=>?_,rfl⟩;go_simp
             case g4 | g8=>
              intro v w1 hx;(repeat intro (zq:v _ = _));intro bb hbb;subst hbb;have n0:w1.cell? ⟨O,2,none⟩ = some (.slice Ag ng cg):=(HPT.out.blk.ext (hdr.trans hx)).cell 2;have n1:w1.cell? ⟨gn,0,none⟩ = some (.int .i64 n):=(hdr.trans hx).cell HN0.out;intro K hK;go_simp;exact hK _ _ (Ext.refl _) rfl
             case g10=>
              intro v w1 hx;(repeat intro (zq:v _ = _));intro bb hbb;have o1:bb.eval (.tmp 103) = .slice (some ⟨gn,0,none⟩) N2 cn:=by rw [hbb]; dsimp only; (try simp (discharger:=decide) only [eval_put_ne]); rw [Q0a (by simp only [size_put]; exact (by decide:103 < 110))]; assumption
              exact Q8k rfl o1 (HOW.out.below (hdr.trans hx)) HNL.out HNS.out
             case g11=>
              intro v w1 hx (q5:v 5 = _) (q6:v 6 = _) (q7:v 7 = _) (q8:v 8 = _) (q9:v 9 = _) (q10:(fun v w'=>Q2j w' (v 10) ns) v w1);intro bb hbb;obtain ⟨s9,c9,e9,_⟩:=q10;have o1:bb.eval (.tmp 99) = .string y:=by rw [hbb]; dsimp only; (try simp (discharger:=decide) only [eval_put_ne]); rw [Q0a (by simp only [size_put]; exact (by decide:99 < 110))]; exact q5
              have o2:bb.eval (.tmp 102) = .int .i64 n:=by rw [hbb]; dsimp only; (try simp (discharger:=decide) only [eval_put_ne]); rw [Q0a (by simp only [size_put]; exact (by decide:102 < 110))]; exact q8
              have o3:bb.eval (.tmp 104) = v 10:=by rw [hbb]; dsimp only; (try simp (discharger:=decide) only [eval_put_ne]); rw [Q0a (by simp only [size_put]; exact (by decide:104 < 110))]
              rw [e9] at o3;exact ⟨_,fun w=>Q4j _ (.tmp 99) (.tmp 102) (.tmp 104) rfl o1 o2 o3 (fun w=>Q7q w _ _ _ _ _),by show Value.agg #[.string y,.int .i64 n,.slice s9 _ c9] = Value.agg #[.string y,.int .i64 n,v 10]; rw [e9]⟩
             case g12=>
              intro v w1 hx (q5:v 5 = _) (q6:v 6 = _) (q7:v 7 = _) (q8:v 8 = _) (q9:v 9 = _) (q10:(fun v w'=>Q2j w' (v 10) ns) v w1) (q11:(fun v w'=>v 11 = .agg #[.string y,.int .i64 n,v 10]) v w1);intro bb hbb;intro K hK;obtain ⟨s9,c9,e9,_⟩:=q10;have o1:bb.eval (.tmp 105) = .agg #[.string y,.int .i64 n,v 10]:=by rw [hbb]; dsimp only; (try simp (discharger:=decide) only [eval_put_ne]); rw [Q0a (by simp only [size_put]; exact (by decide:105 < 110))]; exact q11
              rw [e9] at o1;have hbl:Blk (w1.alloc (.cells (Value.agg #[.string y,.int .i64 n,.slice s9 ns.length c9]).cells 114)) w1.heap.size 114 (enc3 (y,n,v 10)).toArray:=by rw [e9]; exact Blk.made _ _ _
              exact Q2y 31 114 (.tmp 105) rfl o1 (X5c w1 _ _ _ _ _) (hK _ _ (Ext.box _ _) ⟨_,rfl,hbl⟩)
             case g13=>
              intro v w1 hx (q1:v 1 = _) (q2:v 2 = _) (q3:v 3 = _) (q4:v 4 = _) (q5:v 5 = _) (q6:v 6 = _) (q7:v 7 = _) (q8:v 8 = _) (q9:v 9 = _) (q10:(fun v w'=>Q2j w' (v 10) ns) v w1) _ (q12:(fun v w'=>∃ g,v 12 = .slice (some ⟨g,0,none⟩) 1 1 /\ Blk w' g 114 (enc3 (y,n,v 10)).toArray) v w1);intro wl hT;obtain rfl:wl = w1:=hT;intro bb hbb;intro K hK;obtain ⟨s9,c9,e9,_⟩:=q10;obtain ⟨g,hg10,hb10⟩:=q12;have o1:bb.eval (.tmp 98) = .slice Ag ng cg:=by rw [hbb]; dsimp only; (try simp (discharger:=decide) only [eval_put_ne]); rw [Q0a (by simp only [size_put]; exact (by decide:98 < 110))]; exact q4
              have o2:bb.eval (.tmp 106) = .slice (some ⟨g,0,none⟩) 1 1:=by rw [hbb]; dsimp only; (try simp (discharger:=decide) only [eval_put_ne]); rw [Q0a (by simp only [size_put]; exact (by decide:106 < 110))]; exact hg10
              have hxx:=hdr.trans hx;exact Q4h _ _ 31 rfl M 114 ig (.agg #[.string emp,.int .i64 0,.slice none 0 0]) 3 48 Tryz.underlying31 hig hzg0 hzg1 hzg2 rfl (by decide) enc3 Q0u _ (LG) (y,n,v 10) o1 (.inl (HPT.out.gat.below hxx)) ⟨g,0,none⟩ o2 (Q4s hb10) (by rw [e9]; exact Q9r) (by have:=HLN.out; omega) (by decide) (by have:=hxx.size; omega) (fun v' w' h1 h2 h3=>hK _ _ ⟨h1,h2,h3⟩)
             case g14=>
              intro v w1 hx (q0:v 0 = _) (q1:v 1 = _) (q2:v 2 = _) (q3:v 3 = _) (q4:v 4 = _) (q5:v 5 = _) (q6:v 6 = _) (q7:v 7 = _) (q8:v 8 = _) (q9:v 9 = _) _ _ _;intro wl hT;replace hT:(fun v w1 w'=>Q1o w' M 114 3 enc3 (v 13) (LG ++ [(y,n,v 10)]) /\ Keep 114 w1 w' /\ Below M w1 w') v w1 wl:=hT;intro bb hbb;intro K hK;have o1:bb.eval (.tmp 94) = .pointer (some ⟨O,0,none⟩):=by rw [hbb]; dsimp only; (try simp (discharger:=decide) only [eval_put_ne]); rw [Q0a (by simp only [size_put]; exact (by decide:94 < 110))]; exact q0
              unfold execOp;simp only [o1];clear o1 hbb;go_simp;exact hK _ _ ⟨rfl,hT⟩
             case g15=>
              intro v w1 hx (q0:v 0 = _) (q1:v 1 = _) (q2:v 2 = _) (q3:v 3 = _) (q4:v 4 = _) (q5:v 5 = _) (q6:v 6 = _) (q7:v 7 = _) (q8:v 8 = _) (q9:v 9 = _) _ _ _;intro wl hT;replace hT:(fun v w1 w'=>v 14 = .pointer (some ⟨O,0,none⟩) /\ Q1o w' M 114 3 enc3 (v 13) (LG ++ [(y,n,v 10)]) /\ Keep 114 w1 w' /\ Below M w1 w') v w1 wl:=hT;intro bb hbb;intro K hK;obtain ⟨hT0,hT⟩:=hT;have o1:bb.eval (.tmp 108) = .pointer (some ⟨O,0,none⟩):=by rw [hbb]; dsimp only; (try simp (discharger:=decide) only [eval_put_ne]); rw [Q0a (by simp only [size_put]; exact (by decide:108 < 110))]; exact hT0
              unfold execOp;simp only [o1];clear o1 hbb;go_simp;exact hK _ _ ⟨rfl,hT⟩
             case g16=>
              intro v w1 hx (q0:v 0 = _) (q1:v 1 = _) (q2:v 2 = _) (q3:v 3 = _) (q4:v 4 = _) (q5:v 5 = _) (q6:v 6 = _) (q7:v 7 = _) (q8:v 8 = _) (q9:v 9 = _) _ _ _;intro wl hT;replace hT:(fun v w1 w'=>v 15 = .pointer (some ⟨O,2,none⟩) /\ Q1o w' M 114 3 enc3 (v 13) (LG ++ [(y,n,v 10)]) /\ Keep 114 w1 w' /\ Below M w1 w') v w1 wl:=hT;intro bb hbb;intro K hK;obtain ⟨hT0,hT1,hT2,hT3⟩:=hT;have hxx:=hdr.trans hx;obtain ⟨bp,cp,hsh,_⟩:=hT1.shape;have o1:bb.eval (.tmp 109) = .pointer (some ⟨O,2,none⟩):=by rw [hbb]; dsimp only; (try simp (discharger:=decide) only [eval_put_ne]); rw [Q0a (by simp only [size_put]; exact (by decide:109 < 110))]; exact hT0
              have o2:bb.eval (.tmp 107) = v 13:=by rw [hbb]; dsimp only; (try simp (discharger:=decide) only [eval_put_ne]); rw [Q0a (by simp only [size_put]; exact (by decide:107 < 110))]
              have hbl:=hT2 _ _ _ (by decide) (HPT.out.blk.ext hxx)
              exact Q2l _ _ rfl Tryz.X8l (g:=O) (k:=2) o1 o2 (by rw [hsh]; rfl) (by rw [hsh]; rfl) hbl (by show 2 < 3; omega) (fun v'=>hK _ _ ⟨v 13,wl,hT1,hT2,hT3,rfl⟩)
             case post =>
              intro v w1 hx;(iterate 10 intro (zq:v _ = _));intro (q10:(fun v w'=>Q2j w' (v 10) ns) v w1) (q11:(fun v w'=>v 11 = .agg #[.string y,.int .i64 n,v 10]) v w1) (q12:(fun v w'=>∃ g,v 12 = .slice (some ⟨g,0,none⟩) 1 1 /\ Blk w' g 114 (enc3 (y,n,v 10)).toArray) v w1);intro w2 hE;replace hE:(fun v w1 w'=>∃ x wm,Q1o wm M 114 3 enc3 x (LG ++ [(y,n,v 10)]) /\ Keep 114 w1 wm /\ Below M w1 wm /\ w' = wm.setCell ⟨O,2,none⟩ x) v w1 w2:=hE;simp only [Flow.acts,Act.put];go_simp;obtain ⟨x9,wm,hom,hkm,hbm,rfl⟩:=hE;have hxx:=hdr.trans hx;have hfin:=X0y.J0d HOK.out (HPT.out.ext hxx) hom q10 hkm HSH.out;have HFIN:=Lib.hid hfin;have HBF:=Lib.hid (Below.setCell ((HBX.out.trans (hxx.below (by omega))).trans hbm) (p:=⟨O,2,none⟩) (by show M <= O; omega) x9)
              clear hom hkm hbm hfin hxx hx hdr q10 q11 q12;(repeat clear zq);go_wp2;go_ret;exact Y0e HBF.out HYS.out ⟨_,_,_,_,_,HFIN.out⟩
           . have e3:=Q4d Y1q hx3
             have HNO:Hid (Q0z t (dat s) = none):=Lib.hid (by rw [HRR.out]; exact Y0y hx1 hx2 hx3)
             clear hx1 hx2 hx3 hwr
             go_quiet (fail)
             replace hdr:=((Ext.refl w5).drewN nq).drew;replace HBW:=Lib.hid (HBW.out.trans (((Ext.refl w5).drewN nq).below hMw));go_wp2;go_ret;exact X0n HBW.out HNO.out
end Go.Proofs
