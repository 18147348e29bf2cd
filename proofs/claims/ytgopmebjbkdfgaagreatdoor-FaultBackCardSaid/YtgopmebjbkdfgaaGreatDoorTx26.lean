/- Contract of the law's own function: ints. Contract of the law's own function: sample. Worlds that differ from an earlier one in one block alone; slices of structs appended to in such a world. Contracts of the reference: IsName, CheckName, HasWord, checkGate. Contracts of the reference: HasWord, checkGate. -/
import Derived.Test.YtgopmebjbkdfgaaGreatDoorTx25
import Derived.Test.YtgopmebjbkdfgaaGreatDoorTx06
import Derived.Test.YtgopmebjbkdfgaaGreatDoorTx04
import Derived.Test.YtgopmebjbkdfgaaGreatDoorTx03
import Derived.Test.YtgopmebjbkdfgaaGreatDoorTx08
set_option maxRecDepth 1000000
set_option maxHeartbeats 64000000
set_option linter.unusedVariables false
set_option linter.unusedSimpArgs false
set_option linter.constructorNameAsVariable false
namespace Go.Proofs
open Go.RowKit Go.Tw Go.Flow
theorem Y2k (w:World) (v:Value) (l:List Int) (hv:Q0e w v l) (hle:l.length <= 4096) :
    Calls Tryz.prog 63 #[v] w fun e w'=>∃ u,e = .returned u /\ Q0s w' w.heap.size 3 (.int .i64) u l /\ Ext w w':=by
 obtain ⟨i0,hi,hz0,hz1,hz2⟩:=info_parts Tryz.info3;obtain ⟨A,cap,rfl,hl,hcap,hc⟩:=hv.opened;have hx:=Ext.box w (.cells #[] 3);have hown:Q0s (w.alloc (.cells #[] 3)) w.heap.size 3 (Value.int .i64) (.slice (some ⟨w.heap.size,0,none⟩) 0 0) []:=World.ownsRow_made w #[] 0 (Nat.le_refl _) (by unfold maxLen; omega) rfl
 cases A with
 | none =>
   have hz:l = []:=by
    cases l with
    | nil=>rfl
    | cons x l=>obtain ⟨b,off,he,_⟩:=hc 0 (by simp); cases he
   subst hz;clear hv hc;go_enter Tryz.func63,Tryz.ntmps63;go_wp2;go_ret;exact ⟨_,rfl,hown,hx⟩
 | some a =>
   have HSRC:Hid (∀ j u,(l.map (Value.int .i64))[j]? = some u -> (w.alloc (.cells #[] 3)).cell? (a.add j) = some u):=by
    exact (by
     intro j u hj;rw [List.getElem?_map] at hj;obtain ⟨y,hy,rfl⟩:=Option.map_eq_some_iff.1 hj;obtain ⟨hjl,rfl⟩:=List.getElem?_eq_some_iff.1 hy;obtain ⟨b,off,he,hcell⟩:=hc j hjl;cases he;rw [addr_add,hx.cell hcell,Q6t hjl]:∀ j u,(l.map (Value.int .i64))[j]? = some u -> (w.alloc (.cells #[] 3)).cell? (a.add j) = some u)
   have HONE:Hid (∀ u ∈ l.map (Value.int .i64),u.oneCell' = true):=by
    exact (by intro u hu; obtain ⟨y,_,rfl⟩:=List.mem_map.1 hu; rfl:∀ u ∈ l.map (Value.int .i64),u.oneCell' = true)
   have HL2:Hid ((l.map (Value.int .i64)).length = l.length * 1):=Lib.hid (by simp)
   clear hv hc;go_enter Tryz.func63,Tryz.ntmps63;go_wp2_with (at_builtin; refine wpList_append_own _ rfl _ _ 40 rfl (w.heap.size) 3 i0 (.int .i64 0) 1 8 Tryz.underlying40 hi hz0 hz1 hz2 rfl (by decide) _ _ _ rfl hown a l.length cap (l.map (Value.int .i64)) rfl HL2.out HSRC.out HONE.out ?_ ?_ ?_ ?_; (focus (unfold maxLen; simp; omega)); (focus (simp; omega)); (focus (simp)); intro v' w4 hown' hgrow _; refine halted ?_)
   have hx4:Ext w w4:=Below.trans hx (below_grown hown hgrow (Nat.le_refl _) hx.size);have hown2:Q0s w4 w.heap.size 3 (.int .i64) v' l:=by
    unfold Q0s;rw [show l.length = 0 + l.length from (Nat.zero_add _).symm]
    exact hown'
   clear hown' hgrow hown hx;unfold Q2t;go_wp2;go_ret;exact ⟨_,rfl,hown2,hx4⟩
end Go.Proofs
namespace Go.Proofs
open Go.RowKit Go.Tw Go.Flow
def ch1 (n:UInt8):ByteArray:=⟨#[n]⟩
def Q0j:Tree:=⟨[⟨ch1 112,8⟩,⟨ch1 113,4⟩,⟨ch1 114,8⟩],[⟨ch1 115,1,[0,1]⟩],[⟨X0g,0,[0,1]⟩,⟨sOr,0,[2,3]⟩]⟩
theorem Z8t {i:Nat} (hi:i < Q0j.basics.length):Short (bName Q0j.basics i):=by
 have:i = 0 ∨ i = 1 ∨ i = 2:=by simp [Q0j] at hi; omega
 rcases this with rfl | rfl | rfl <;> (show (1:Nat) <= _; omega)
theorem ints_at {w:World} {g:Nat} {T:TypeId} {l:List Int} (h:Blk w g T (l.map (Value.int .i64)).toArray) (hl:l.length <= 1000):Q0e w (.slice (some ⟨g,0,none⟩) l.length l.length) l:=by
 refine ⟨fun j=>.int .i64 (l.getD j 0),⟨some ⟨g,0,none⟩,l.length,rfl,by omega,Nat.le_refl _,fun j hj=>⟨g,0,rfl,?_⟩⟩,fun j hj=>?_⟩
 . have hj':j < l.length:=by omega
   rw [h.cell]; simp [hj']
 . simp [hj]
theorem Q2a (w:World) :
    Calls Tryz.prog 32 #[] w fun e w'=>∃ u,e = .returned u /\ IsTree w' u Q0j /\ Ext w w':=by
 go_enter Tryz.func32,Tryz.ntmps32;go_wp2_with fail;have k0:=Blk.made w 33 #[.slice (some ⟨w.heap.size + 1,0,none⟩) 3 3,.slice (some ⟨w.heap.size + 1 + 1 + 1,0,none⟩) 1 1,.slice (some ⟨w.heap.size + 1 + 1 + 1 + 1 + 1 + 1,0,none⟩) 2 2];have x0:=Ext.box w (.cells #[.slice (some ⟨w.heap.size + 1,0,none⟩) 3 3,.slice (some ⟨w.heap.size + 1 + 1 + 1,0,none⟩) 1 1,.slice (some ⟨w.heap.size + 1 + 1 + 1 + 1 + 1 + 1,0,none⟩) 2 2] 33);have es0:(w.alloc (.cells #[.slice (some ⟨w.heap.size + 1,0,none⟩) 3 3,.slice (some ⟨w.heap.size + 1 + 1 + 1,0,none⟩) 1 1,.slice (some ⟨w.heap.size + 1 + 1 + 1 + 1 + 1 + 1,0,none⟩) 2 2] 33)).heap.size = w.heap.size + 1:=by simp
 obtain ⟨X0,hX0⟩:∃ X,w.alloc (.cells #[.slice (some ⟨w.heap.size + 1,0,none⟩) 3 3,.slice (some ⟨w.heap.size + 1 + 1 + 1,0,none⟩) 1 1,.slice (some ⟨w.heap.size + 1 + 1 + 1 + 1 + 1 + 1,0,none⟩) 2 2] 33) = X:=⟨_,rfl⟩;rw [hX0] at k0 x0 es0 ⊢;clear hX0;have k1:=Blk.made X0 103 #[.string ⟨#[112]⟩,.int .i64 8,.string ⟨#[113]⟩,.int .i64 4,.string ⟨#[114]⟩,.int .i64 8];have x1:=Ext.box X0 (.cells #[.string ⟨#[112]⟩,.int .i64 8,.string ⟨#[113]⟩,.int .i64 4,.string ⟨#[114]⟩,.int .i64 8] 103);have es1:(X0.alloc (.cells #[.string ⟨#[112]⟩,.int .i64 8,.string ⟨#[113]⟩,.int .i64 4,.string ⟨#[114]⟩,.int .i64 8] 103)).heap.size = X0.heap.size + 1:=by simp
 obtain ⟨X1,hX1⟩:∃ X,X0.alloc (.cells #[.string ⟨#[112]⟩,.int .i64 8,.string ⟨#[113]⟩,.int .i64 4,.string ⟨#[114]⟩,.int .i64 8] 103) = X:=⟨_,rfl⟩;rw [hX1] at k1 x1 es1 ⊢;clear hX1;have k2:=Blk.made X1 3 #[.int .i64 0,.int .i64 1];have x2:=Ext.box X1 (.cells #[.int .i64 0,.int .i64 1] 3);have es2:(X1.alloc (.cells #[.int .i64 0,.int .i64 1] 3)).heap.size = X1.heap.size + 1:=by simp
 obtain ⟨X2,hX2⟩:∃ X,X1.alloc (.cells #[.int .i64 0,.int .i64 1] 3) = X:=⟨_,rfl⟩;rw [hX2] at k2 x2 es2 ⊢;clear hX2;have k3:=Blk.made X2 106 #[.string ⟨#[115]⟩,.int .i64 1,.slice (some ⟨w.heap.size + 1 + 1,0,none⟩) 2 2];have x3:=Ext.box X2 (.cells #[.string ⟨#[115]⟩,.int .i64 1,.slice (some ⟨w.heap.size + 1 + 1,0,none⟩) 2 2] 106);have es3:(X2.alloc (.cells #[.string ⟨#[115]⟩,.int .i64 1,.slice (some ⟨w.heap.size + 1 + 1,0,none⟩) 2 2] 106)).heap.size = X2.heap.size + 1:=by simp
 obtain ⟨X3,hX3⟩:∃ X,X2.alloc (.cells #[.string ⟨#[115]⟩,.int .i64 1,.slice (some ⟨w.heap.size + 1 + 1,0,none⟩) 2 2] 106) = X:=⟨_,rfl⟩;rw [hX3] at k3 x3 es3 ⊢;clear hX3;have k4:=Blk.made X3 3 #[.int .i64 0,.int .i64 1];have x4:=Ext.box X3 (.cells #[.int .i64 0,.int .i64 1] 3);have es4:(X3.alloc (.cells #[.int .i64 0,.int .i64 1] 3)).heap.size = X3.heap.size + 1:=by simp
 obtain ⟨X4,hX4⟩:∃ X,X3.alloc (.cells #[.int .i64 0,.int .i64 1] 3) = X:=⟨_,rfl⟩;rw [hX4] at k4 x4 es4 ⊢;clear hX4;have k5:=Blk.made X4 3 #[.int .i64 2,.int .i64 3];have x5:=Ext.box X4 (.cells #[.int .i64 2,.int .i64 3] 3);have es5:(X4.alloc (.cells #[.int .i64 2,.int .i64 3] 3)).heap.size = X4.heap.size + 1:=by simp
 obtain ⟨X5,hX5⟩:∃ X,X4.alloc (.cells #[.int .i64 2,.int .i64 3] 3) = X:=⟨_,rfl⟩;rw [hX5] at k5 x5 es5 ⊢;clear hX5;have k6:=Blk.made X5 114 #[.string ⟨#[97,110,100]⟩,.int .i64 0,.slice (some ⟨w.heap.size + 1 + 1 + 1 + 1,0,none⟩) 2 2,.string ⟨#[111,114]⟩,.int .i64 0,.slice (some ⟨w.heap.size + 1 + 1 + 1 + 1 + 1,0,none⟩) 2 2];have x6:=Ext.box X5 (.cells #[.string ⟨#[97,110,100]⟩,.int .i64 0,.slice (some ⟨w.heap.size + 1 + 1 + 1 + 1,0,none⟩) 2 2,.string ⟨#[111,114]⟩,.int .i64 0,.slice (some ⟨w.heap.size + 1 + 1 + 1 + 1 + 1,0,none⟩) 2 2] 114);have es6:(X5.alloc (.cells #[.string ⟨#[97,110,100]⟩,.int .i64 0,.slice (some ⟨w.heap.size + 1 + 1 + 1 + 1,0,none⟩) 2 2,.string ⟨#[111,114]⟩,.int .i64 0,.slice (some ⟨w.heap.size + 1 + 1 + 1 + 1 + 1,0,none⟩) 2 2] 114)).heap.size = X5.heap.size + 1:=by simp
 obtain ⟨X6,hX6⟩:∃ X,X5.alloc (.cells #[.string ⟨#[97,110,100]⟩,.int .i64 0,.slice (some ⟨w.heap.size + 1 + 1 + 1 + 1,0,none⟩) 2 2,.string ⟨#[111,114]⟩,.int .i64 0,.slice (some ⟨w.heap.size + 1 + 1 + 1 + 1 + 1,0,none⟩) 2 2] 114) = X:=⟨_,rfl⟩;rw [hX6] at k6 x6 es6 ⊢;clear hX6;replace k0:=(((((k0.ext x1).ext x2).ext x3).ext x4).ext x5).ext x6;replace k1:=((((k1.ext x2).ext x3).ext x4).ext x5).ext x6;replace k2:=(((k2.ext x3).ext x4).ext x5).ext x6;replace k3:=((k3.ext x4).ext x5).ext x6;replace k4:=(k4.ext x5).ext x6;replace k5:=k5.ext x6;have e0:X0.heap.size = w.heap.size + 1:=by omega
 have e1:X1.heap.size = w.heap.size + 1 + 1:=by omega
 have e2:X2.heap.size = w.heap.size + 1 + 1 + 1:=by omega
 have e3:X3.heap.size = w.heap.size + 1 + 1 + 1 + 1:=by omega
 have e4:X4.heap.size = w.heap.size + 1 + 1 + 1 + 1 + 1:=by omega
 have e5:X5.heap.size = w.heap.size + 1 + 1 + 1 + 1 + 1 + 1:=by omega
 have e6:X6.heap.size = w.heap.size + 1 + 1 + 1 + 1 + 1 + 1 + 1:=by omega
 rw [e0] at k1;rw [e1] at k2;rw [e2] at k3;rw [e3] at k4;rw [e4] at k5;rw [e5] at k6;have HXW:Hid (Ext w X6):=Lib.hid (Ext.trans (Ext.trans (Ext.trans (Ext.trans (Ext.trans (Ext.trans (x0) x1) x2) x3) x4) x5) x6);have eW:X6.heap.size = w.heap.size + 1 + 1 + 1 + 1 + 1 + 1 + 1:=e6;clear x0 es0 e0 x1 es1 e1 x2 es2 e2 x3 es3 e3 x4 es4 e4 x5 es5 e5 x6 es6 e6;obtain ⟨W,hWW⟩:∃ W,X6 = W:=⟨_,rfl⟩;rw [hWW] at HXW eW ⊢ k0 k1 k2 k3 k4 k5 k6;clear hWW;have i1:=ints_at (l:=[0,1]) k2 (by simp)
 have i2:=ints_at (l:=[0,1]) k4 (by simp)
 have i3:=ints_at (l:=[2,3]) k5 (by simp)
 refine bodyPost_ret (Q4u Tryz.results32 rfl k0 Tryz.Q2n Tryz.Q0v) rfl ?_;refine ⟨_,rfl,⟨_,_,_,rfl,⟨?_,?_,?_⟩⟩,HXW.out⟩
 . have hb:Blk W (w.heap.size + 1) 103 (Q1c enc2 3 (bF Q0j)):=k1
   exact X0u (l:=Q0j.basics) hb (by decide) (by decide) fun i hi=>⟨rfl,Z8t hi⟩
 . have hb:Blk W (w.heap.size + 1 + 1 + 1) 106 (Q1c enc3 1 (cF Q0j fun _=>.slice (some ⟨w.heap.size + 1 + 1,0,none⟩) 2 2)):=k3
   exact X0p (l:=Q0j.causes) hb (by decide) (by decide) fun i hi=>by
    have:i = 0:=by simp [Q0j] at hi; exact hi
    subst this;exact ⟨_,rfl,i1,by show (1:Nat) <= _; omega⟩
 . have hb:Blk W (w.heap.size + 1 + 1 + 1 + 1 + 1 + 1) 114 (Q1c enc3 2 (gF Q0j fun i=>if i = 0 then .slice (some ⟨w.heap.size + 1 + 1 + 1 + 1,0,none⟩) 2 2 else .slice (some ⟨w.heap.size + 1 + 1 + 1 + 1 + 1,0,none⟩) 2 2)):=k6
   exact X2b (l:=Q0j.gates) hb (by decide) (by decide) fun i hi=>by
    have:i = 0 ∨ i = 1:=by simp [Q0j] at hi; omega
    rcases this with rfl | rfl
    . exact ⟨_,rfl,i2,by show (3:Nat) <= _; omega⟩
    . exact ⟨_,rfl,i3,by show (2:Nat) <= _; omega⟩
end Go.Proofs
namespace Go.Tw
open Go.RowKit Go.Flow
def Off (O:Nat) (w w':World):Prop:=Below O w w' /\ w.heap.size <= w'.heap.size /\ ∀ b,b < w.heap.size -> b ≠ O -> w'.heap[b]? = w.heap[b]?
theorem Off.refl (O:Nat) (w:World):Off O w w:=⟨Below.refl _ _,Nat.le_refl _,fun _ _ _=>rfl⟩
theorem Off.ext {O:Nat} {a b c:World} (h:Off O a b) (hx:Ext b c) (hO:O <= b.heap.size):Off O a c :=
 ⟨h.1.trans (hx.mono hO),Nat.le_trans h.2.1 hx.size,fun k hk hne=>(Below.block hx k (Nat.lt_of_lt_of_le hk h.2.1)).trans (h.2.2 k hk hne)⟩
theorem Off.grown {O base n size:Nat} {e:TypeId} {v:Value} {xs:List Value} {a b c:World} (h:Off O a b) (hown:b.ownsRow base e size v n xs) (hb:a.heap.size <= base) (hO:O <= a.heap.size) (hg:b.grownBy c v.ownBlock):Off O a c:=by
 have hbel:Below O b c:=Below.grown (Below.refl _ _) hg (Nat.le_trans hO h.2.1) (fun k hk=>by have:=(hown.lt k hk).1; omega)
 have hbel2:Below a.heap.size b c:=Below.grown (Below.refl _ _) hg h.2.1 (fun k hk=>by have:=(hown.lt k hk).1; omega)
 exact ⟨h.1.trans hbel,Nat.le_trans h.2.1 hbel2.size,fun k hk hne=>(hbel2.block k hk).trans (h.2.2 k hk hne)⟩
theorem Off.set {O:Nat} {a b:World} (h:Off O a b) (k:Nat) (u:Value):Off O a (b.setCell ⟨O,k,none⟩ u) :=
 ⟨h.1.setCell (p:=⟨O,k,none⟩) (Nat.le_refl _) u,by simpa using h.2.1,fun j hj hne=>(Below.heap_setCell _ _ _ _ hne).trans (h.2.2 j hj hne)⟩
theorem Q1o.off {α:Type} {w w':World} {base O k:Nat} {e:TypeId} {enc:α -> List Value} {v:Value} {l:List α} (h:Q1o w base e k enc v l) (hO:O < base) (hx:Off O w w'):Q1o w' base e k enc v l:=by
 obtain ⟨h1,h2⟩:=h;refine ⟨h1,?_⟩
 rcases h2 with h2 | ⟨g,cap,cur,hv,hb,hg,r⟩
 . exact .inl h2
 . exact .inr ⟨g,cap,cur,hv,hb,by rw [hx.2.2 g (Array.getElem?_eq_some_iff.1 hg).1 (by omega)]; exact hg,r⟩
theorem Q1o.setCell {α:Type} {w:World} {base k:Nat} {e:TypeId} {enc:α -> List Value} {v:Value} {l:List α} (h:Q1o w base e k enc v l) {p:Addr} (hp:p.block < base) (u:Value):Q1o (w.setCell p u) base e k enc v l :=
 h.only hp (Q7d w p u)
theorem Q8h {w w':World} {v cv:Value} {l:List Int} {base n size:Nat} {T e:TypeId} {xs:List Value} (h:Q0s w 0 T (Value.int .i64) v l) (hown:w.ownsRow base e size cv n xs) (he:e ≠ T) (hg:w.grownBy w' cv.ownBlock):Q0s w' 0 T (Value.int .i64) v l:=by
 obtain ⟨h1,h2⟩:=h;refine ⟨h1,?_⟩
 rcases h2 with h2 | ⟨g,cap,cur,hv,hb,hgl,r⟩
 . exact .inl h2
 . refine .inr ⟨g,cap,cur,hv,hb,?_,r⟩
   rw [hg.block g (Array.getElem?_eq_some_iff.1 hgl).1 ?_]; exact hgl;intro e'
   rcases hown.2 with ⟨rfl,_⟩ | ⟨g',_,cur',rfl,_,hg',_⟩
   . cases e'
   . have e2:g = g':=by simpa [Value.ownBlock] using e'
     rw [e2,hg'] at hgl;injection hgl with hgl;injection hgl with _ h3 _;exact he h3
theorem Q4z {w w':World} {cv:Value} {base n size g:Nat} {T e:TypeId} {cs:Array Value} {xs:List Value} (h:Blk w g T cs) (hown:w.ownsRow base e size cv n xs) (hb:g < base) (hg:w.grownBy w' cv.ownBlock):Blk w' g T cs:=by
 unfold Blk at *;rw [hg.block g (Array.getElem?_eq_some_iff.1 h).1 ?_]; exact h;intro e';have:=(hown.lt g e'.symm).1;omega
theorem X1c {w:World} {v u:Value} {l:List Int} {O k:Nat} {T S:TypeId} {cs:Array Value} (h:Q0s w 0 T (Value.int .i64) v l) (hb:Blk w O S cs) (hT:S ≠ T):Q0s (w.setCell ⟨O,k,none⟩ u) 0 T (Value.int .i64) v l:=by
 obtain ⟨h1,h2⟩:=h;refine ⟨h1,?_⟩
 rcases h2 with h2 | ⟨g,cap,cur,hv,hbb,hgl,r⟩
 . exact .inl h2
 . refine .inr ⟨g,cap,cur,hv,hbb,?_,r⟩
   rw [Below.heap_setCell _ _ _ _ ?_]; exact hgl;intro e';have e2:g = O:=e';unfold Blk at hb;rw [e2,hb] at hgl;injection hgl with hgl;injection hgl with _ h3 _;exact hT h3
theorem Q1o.rowsOf {α β:Type} {w:World} {base:Nat} {e:TypeId} {k:Nat} {enc:α -> List Value} {v:Value} {L:List α} {l:List β} {R:World -> (Nat -> Value) -> β -> Prop} (h:Q1o w base e k enc v L) (hlen:L.length = l.length) (hl:l.length <= 17592186043904)
    (hk:∀ x,(enc x).length = k) (hR:∀ j (h1:j < L.length) (h2:j < l.length),R w (fun i=>((enc L[j])[i]?).getD undef) l[j]) (hloc:∀ c c' x,(∀ i,i < k -> c i = c' i) -> R w c x -> R w c' x):Go.Tw.Rows k R w v l:=by
 refine ⟨fun j=>((L.flatMap enc)[j]?).getD undef,?_,fun j hj=>hloc _ _ _ (fun i hi=>?_) (hR j (by omega) hj)⟩
 . obtain ⟨_,h2⟩:=h
   rw [hlen] at h2
   rcases h2 with ⟨rfl,h0⟩ | ⟨g,cap,cur,rfl,_,hg,hcap,_,_,htake⟩
   . exact ⟨none,0,by rw [h0],hl,by omega,fun j hj=>by rw [h0,Nat.zero_mul] at hj; omega⟩
   . refine ⟨some ⟨g,0,none⟩,cap,rfl,hl,hcap,fun j hj=>⟨g,0,rfl,?_⟩⟩
     rw [Nat.zero_add];have h1:=congrArg (fun l=>l[j]?) htake;simp only [List.getElem?_take,hj,if_true] at h1;have hlt:j < (L.flatMap enc).length:=by rw [Q9q hk,hlen]; exact hj
     rw [List.getElem?_eq_getElem hlt] at h1;simp only [World.cell?,hg,List.getElem?_eq_getElem hlt,Option.getD_some]
     simpa using h1
 . show ((enc L[j])[i]?).getD undef = ((L.flatMap enc)[j * k + i]?).getD undef
   rw [flat_get hk L j i (by omega) hi]
theorem X1k {α:Type} {P:Program} {K:Value -> World -> Prop} {o:Oper} {a:Act} {w:World} (s x:Operand) (t:TypeId) (ho:o.op = .call { callee:=.builtin .append,args:=#[s,x],argTypes:=#[t,t] })
    (base:Nat) (e:TypeId) (i:TypeInfo) (z:Value) (k bytes:Nat) (ht:P.underlying t = some (.slice e)) (hi:P.info? e = some i) (hz:i.zero = some z) (hsize:i.size = k) (hby:i.bytes = bytes) (hzs:z.cells.size = k) (hk0:0 < k)
    (enc:α -> List Value) (hk:∀ x,(enc x).length = k) (v:Value) (xs:List α) (y:α) (hs:a.eval s = v) (hown:Q1o w base e k enc v xs) (ad:Addr) (c:Nat) (hx:a.eval x = .slice (some ad) 1 c)
    (hnews:∀ j u,(enc y)[j]? = some u -> w.cell? (ad.add j) = some u) (h1:∀ u ∈ enc y,u.oneCell' = true)
    (h63:xs.length + 1 <= 100000) (hb:bytes <= 1000) (hbase:base <= w.heap.size)
    (h:∀ v' w',Q1o w' base e k enc v' (xs ++ [y]) -> w.grownBy w' v.ownBlock -> K v' w'):gives P K ((execOp a.eval o).run P w):=by
 obtain ⟨v',w',hr,h2,h3,h4⟩:=run_append_own (P:=P) w base t o.type e i z k bytes ht hi hz hsize hby hzs hk0 v xs.length (xs.flatMap enc) hown ad 1 c (enc y) (by rw [hk]; omega) hnews h1 (by unfold maxLen; omega) (by
     have:(xs.length + 1) * bytes <= 100000 * 1000:=Nat.mul_le_mul h63 hb;omega) hbase
 unfold execOp;simp only [ho,resolve,invoke,builtin,Sem.run_bind,Sem.run_pure,Result.andThen_ok,List.map_toArray,List.map_cons,List.map_nil,hs,hx,hr];exact h v' w' (Q1o.snoc h2) h3
theorem Q4s {w:World} {g:Nat} {T:TypeId} {xs:List Value} (h:Blk w g T xs.toArray):∀ j u,xs[j]? = some u -> w.cell? ((⟨g,0,none⟩:Addr).add j) = some u:=by
 intro j u hu;rw [addr_add,Nat.zero_add,h.cell]
 simpa using hu
def X0z (x:Basic):List Value:=[.string x.name,.int .i64 x.chance]
theorem Q9y (x:Basic):(X0z x).length = 2:=rfl
theorem Y1a {α:Type} [Inhabited α] {l:List α} {k:Nat} (hk:k < l.length):l.take (k + 1) = l.take k ++ [l.getD k default]:=by
 rw [List.take_succ_eq_append_getElem hk]; simp [hk]
end Go.Tw
namespace Go.Proofs
open Go.RowKit Go.Tw Go.Flow
theorem Y7m (w:World) (s:ByteArray) (hs:Short s) :
    Calls Tryz.prog 114 #[.string s] w fun e w'=>e = .returned (.bool (nameB s)) /\ w = w':=by
 unfold Short at hs;have hsz:s.data.toList.length = s.size:=by simp
 by_cases hz:s.size = 0
 . have HR:Hid (nameB s = false):=by
    rw [Q2d];have:s.data.toList = []:=List.length_eq_zero_iff.1 (by omega)
    rw [this]; exact rfl
   have hz':((s.size:Int) == 0) = true:=by rw [beq_iff_eq]; omega
   clear hz hsz;go_enter Tryz.func114,Tryz.ntmps114;go_wp2;go_ret;exact ⟨Q1j HR.out.symm,rfl⟩
 . have hz':((s.size:Int) == 0) = false:=by rw [beq_eq_false_iff_ne]; omega
   by_cases hb:24 < s.size
   . have HR:Hid (nameB s = false):=by
      rw [Q2d,show decide (s.data.toList.length <= 24) = false from decide_eq_false (by omega)]
      rw [Bool.and_false,Bool.and_false]; exact rfl
     have hb':(24:Int) < (s.size:Int):=by omega
     clear hz hsz;go_enter Tryz.func114,Tryz.ntmps114;go_wp2;go_ret;exact ⟨Q1j HR.out.symm,rfl⟩
   . have HR:Hid (nameB s = Q1r true s.data.toList):=by
      rw [Q2d,show decide (s.data.toList.length <= 24) = true from decide_eq_true (by omega),show decide (s.data.toList ≠ []) = true from decide_eq_true (fun e=>hz (by rw [<- hsz,e]; rfl))]
      rw [Bool.and_true,Bool.and_true]; exact rfl
     have HSZ:=Lib.hid hsz;have hb':¬ (24:Int) < (s.size:Int):=by omega
     clear hz hsz;go_enter Tryz.func114,Tryz.ntmps114;go_wp2
     go_loop [3] (fun i=>∃ k:Nat,k <= s.size /\ i = .int .i64 k /\ Q1r (k == 0) (s.data.toList.drop k) = Q1r true s.data.toList) (fun i=>s.size - (intOf i).toNat)
     case atStart=>exact ⟨0,Nat.zero_le _,rfl,rfl⟩
     case round =>
      obtain ⟨k,hk,rfl,hc⟩:=hrel;have HC:=Lib.hid hc; clear hc
      by_cases hlt:k < s.size
      . have HB:=Lib.hid (Y5l s k hlt)
        have HL:=Lib.hid (X8j (s[k]'hlt));have HO:=Lib.hid (Y0x (s[k]'hlt));have hcl:(65 <= (s[k]'hlt).toNat /\ (s[k]'hlt).toNat <= 90) ∨ (97 <= (s[k]'hlt).toNat /\ (s[k]'hlt).toNat <= 122) ∨ (48 <= (s[k]'hlt).toNat /\ (s[k]'hlt).toNat <= 57) ∨ (s[k]'hlt).toNat = 95 ∨ (s[k]'hlt).toNat < 48 ∨ (58 <= (s[k]'hlt).toNat /\ (s[k]'hlt).toNat < 65) ∨ (91 <= (s[k]'hlt).toNat /\ (s[k]'hlt).toNat < 97 /\ (s[k]'hlt).toNat ≠ 95) ∨ 123 <= (s[k]'hlt).toNat:=by omega
        have hdef:((s[k]'hlt).toNat:Int) = 95 ∨ ¬ ((s[k]'hlt).toNat:Int) = 95:=by omega
        have go (b1 b2:Bool) (hl:Q2i (s[k]'hlt) = b1) (ho:Q4m (s[k]'hlt) = b2):Q1r (k == 0) (s.data.toList.drop k) = ((b1 || (!(k == 0) && b2)) && Q1r false (s.data.toList.drop (k + 1))):=by
         rw [HB.out,Q1r,hl,ho]
        have GO:=Lib.hid go;clear go
        rcases hcl with hcl | hcl | hcl | hcl | hcl | hcl | hcl | hcl
        case inl | inr.inl =>
         all_goals
          have HX:Hid (Q2i (s[k]'hlt) = true):=by
           exact (by rw [HL.out]; simp; omega:Q2i (s[k]'hlt) = true)
          have f0:decide (97 <= ((s[k]'hlt).toNat:Int)) = decide (97 <= (s[k]'hlt).toNat):=by rw [decide_eq_decide]; omega
          have f1:(65:Int) <= ((s[k]'hlt).toNat:Int):=by omega
          have f2:((s[k]'hlt).toNat:Int) <= 122:=by omega
          first | (have f3:((s[k]'hlt).toNat:Int) <= 90:=by omega) | (have f3:(97:Int) <= ((s[k]'hlt).toNat:Int):=by omega)
          first | (have f4:¬ (97:Int) <= ((s[k]'hlt).toNat:Int):=by omega) | skip
          clear hcl hdef f0;go_wp2;go_round
          case rel=>exact ⟨k + 1,by omega,by go_num,by rw [<- HC.out,GO.out _ _ HX.out rfl,Bool.true_or,Bool.true_and]; rfl⟩
          case measure=>simp [intOf]; omega
        case inr.inr.inl | inr.inr.inr.inl =>
         all_goals
          have HX:Hid (Q2i (s[k]'hlt) = false /\ Q4m (s[k]'hlt) = true):=by
           exact (by rw [HL.out,HO.out]; simp; omega:Q2i (s[k]'hlt) = false /\ Q4m (s[k]'hlt) = true)
          have f1:¬ (97:Int) <= ((s[k]'hlt).toNat:Int):=by omega
          first | (have f2:¬ (65:Int) <= ((s[k]'hlt).toNat:Int):=by omega) | (have f2:(65:Int) <= ((s[k]'hlt).toNat:Int):=by omega)
          have f3:(¬ ((s[k]'hlt).toNat:Int) <= 90) ∨ ((s[k]'hlt).toNat:Int) <= 90:=by omega
          first | (have f4:¬ ((s[k]'hlt).toNat:Int) <= 90:=by omega) | skip
          first | (have f5:(((s[k]'hlt).toNat:Int) != 95) = false:=by rw [bne_eq_false_iff_eq]; omega) | (have f5:(((s[k]'hlt).toNat:Int) != 95) = true:=by rw [bne_iff_ne]; omega)
          first | (have f6:¬ ((s[k]'hlt).toNat:Int) < 48:=by omega) | skip
          first | (have f7:¬ (57:Int) < ((s[k]'hlt).toNat:Int):=by omega) | skip
          clear hcl hdef f3
          by_cases h0:k = 0
          . subst h0
            go_wp2;go_ret;exact ⟨Q1j (by rw [HR.out,<- HC.out,GO.out _ _ HX.out.1 HX.out.2]; rfl),rfl⟩
          . have h0':(((k:Nat):Int) == 0) = false:=by rw [beq_eq_false_iff_ne]; omega
            have HK:Hid ((k == 0) = false):=Lib.hid (by rw [beq_eq_false_iff_ne]; omega)
            clear h0;go_wp2;go_round
            case rel=>exact ⟨k + 1,by omega,by go_num,by rw [<- HC.out,GO.out _ _ HX.out.1 HX.out.2,HK.out]; rfl⟩
            case measure=>simp [intOf]; omega
        all_goals
         have HX:Hid (Q2i (s[k]'hlt) = false /\ Q4m (s[k]'hlt) = false):=by
          exact (by rw [HL.out,HO.out]; simp; omega:Q2i (s[k]'hlt) = false /\ Q4m (s[k]'hlt) = false)
         first | (have f1:¬ (97:Int) <= ((s[k]'hlt).toNat:Int):=by omega) | (have f1:(97:Int) <= ((s[k]'hlt).toNat:Int):=by omega)
         first | (have f2:¬ (65:Int) <= ((s[k]'hlt).toNat:Int):=by omega) | (have f2:(65:Int) <= ((s[k]'hlt).toNat:Int):=by omega)
         first | (have f3:¬ ((s[k]'hlt).toNat:Int) <= 122:=by omega) | skip
         first | (have f4:¬ ((s[k]'hlt).toNat:Int) <= 90:=by omega) | skip
         have f5:(((s[k]'hlt).toNat:Int) != 95) = true:=by rw [bne_iff_ne]; omega
         first | (have f6:((s[k]'hlt).toNat:Int) < 48:=by omega) | (have f6:¬ ((s[k]'hlt).toNat:Int) < 48:=by omega)
         first | (have f7:(57:Int) < ((s[k]'hlt).toNat:Int):=by omega) | skip
         clear hcl hdef
         by_cases h0:k = 0
         . subst h0
           go_wp2;go_ret;exact ⟨Q1j (by rw [HR.out,<- HC.out,GO.out _ _ HX.out.1 HX.out.2]; rfl),rfl⟩
         . have h0':(((k:Nat):Int) == 0) = false:=by rw [beq_eq_false_iff_ne]; omega
           clear h0;go_wp2;go_ret;exact ⟨Q1j (by rw [HR.out,<- HC.out,GO.out _ _ HX.out.1 HX.out.2]; simp),rfl⟩
      . go_wp2
        go_ret;exact ⟨Q1j (by rw [HR.out,<- HC.out,List.drop_eq_nil_of_le (by rw [HSZ.out]; omega)]; rfl),rfl⟩
theorem X8w (w:World) (s:ByteArray) (hs:Short s) :
    Calls Tryz.prog 64 #[.string s] w fun e w'=>e = .returned (.int .i64 (Q3f s)) /\ w = w':=by
 have HI:=Lib.hid (Y7m w s hs);unfold Q3f;obtain ⟨b,hb⟩:∃ b,nameB s = b:=⟨_,rfl⟩;rw [hb] at HI ⊢;clear hb hs;cases b with
 | true =>
   go_enter Tryz.func64,Tryz.ntmps64;go_wp2_with (go_at_call 114; refine HI.out.mono ?_; rintro e w' ⟨rfl,rfl⟩);go_ret;exact ⟨rfl,rfl⟩
 | false =>
   go_enter Tryz.func64,Tryz.ntmps64;go_wp2_with (go_at_call 114; refine HI.out.mono ?_; rintro e w' ⟨rfl,rfl⟩);go_ret;exact ⟨rfl,rfl⟩
end Go.Proofs
namespace Go.Tw
open Go.RowKit
def sx (l:List ByteArray) (k:Nat):ByteArray:=l.getD k ⟨#[]⟩
theorem Z8r {l:List ByteArray} {k:Nat} (h:k < l.length):sx l k = l[k]:=by simp [sx,h]
theorem X5n.opened {w:World} {v:Value} {l:List ByteArray} (h:X5n w v l) :
    ∃ A cap,v = .slice A l.length cap /\ l.length <= 17592186043904 /\ l.length <= cap /\ ∀ k,k < l.length -> ∃ b off,A = some ⟨b,off,none⟩ /\ w.cell? ⟨b,off + k,none⟩ = some (.string (sx l k)):=by
 obtain ⟨c,⟨A,cap,hv,hn,hcap,hc⟩,h2⟩:=h;refine ⟨A,cap,hv,hn,hcap,fun k hk=>?_⟩;obtain ⟨b,off,hA,h⟩:=hc k (by omega)
 refine ⟨b,off,hA,?_⟩;have:=h2 k hk;simp only [Nat.mul_one,Nat.add_zero] at this;rw [h,this,Z8r hk]
def Z5x (l:List ByteArray) (s:ByteArray):Bool:=l.any fun x=>x == s
theorem Y1f (x:ByteArray) (l:List ByteArray) (s:ByteArray):Z5x (x :: l) s = (x == s || Z5x l s):=rfl
theorem Z6x {l:List ByteArray} {k:Nat} (h:k < l.length):l.drop k = sx l k :: l.drop (k + 1):=by rw [List.drop_eq_getElem_cons h,Z8r h]
end Go.Tw
namespace Go.Proofs
open Go.RowKit Go.Tw Go.Flow
theorem Y3p (w:World) (v:Value) (l:List ByteArray) (s:ByteArray) (hv:X5n w v l) :
    Calls Tryz.prog 116 #[v,.string s] w fun e w'=>e = .returned (.bool (Z5x l s)) /\ w = w':=by
 obtain ⟨A,cap,rfl,hl,hcap,hc⟩:=hv.opened;clear hv;go_enter Tryz.func116,Tryz.ntmps116;go_wp2
 go_loop [5] (fun i=>∃ k:Nat,k <= l.length /\ i = .int .i64 k /\ Z5x (l.drop k) s = Z5x l s) (fun i=>l.length - (intOf i).toNat)
 case atStart=>exact ⟨0,Nat.zero_le _,rfl,rfl⟩
 case round =>
  obtain ⟨k,hk,rfl,hr⟩:=hrel;have HR:=Lib.hid hr; clear hr
  by_cases hlt:k < l.length
  . obtain ⟨b,off,rfl,hcell⟩:=hc k hlt
    have HD:=Lib.hid (Z6x hlt);obtain ⟨y,hy⟩:∃ y,sx l k = y:=⟨_,rfl⟩;rw [hy] at hcell HD;clear hc hy
    by_cases hx:y = s
    . have HX:=Lib.hid (str_eq hx)
      have hx1:=toList_eq rfl hx;clear hx;go_wp2;go_ret;exact ⟨Q1j (by rw [<- HR.out,HD.out,Y1f,HX.out,Bool.true_or]),rfl⟩
    . have HX:=Lib.hid (Q5e hx)
      have hx1:=Q4d rfl hx;clear hx;go_wp2;go_round
      case rel=>exact ⟨k + 1,by omega,by go_num,by rw [<- HR.out,HD.out,Y1f,HX.out,Bool.false_or]⟩
      case measure=>simp [intOf]; omega
  . clear hc
    go_wp2;go_ret;exact ⟨Q1j (by rw [<- HR.out,List.drop_eq_nil_of_le (by omega)]; rfl),rfl⟩
theorem Z0t (s:ByteArray):Z5x [X0g,sOr,Q6b] s = Q8j s:=by
 have h (a b:ByteArray):(a == b) = (b == a):=by
  by_cases h:a = b
  . rw [str_eq h,str_eq h.symm]
  . rw [Q5e h,Q5e (fun e=>h e.symm)]
 unfold Z5x Q8j;simp only [List.any_cons,List.any_nil,Bool.or_false];rw [h X0g,h sOr,h Q6b,Bool.or_assoc]
theorem Y2o (k:ByteArray) (need:Int) (l:List Int) (n:Int):Q8n k need l n = if Q8j k = false then 13 else if 12 < l.length then 5 else if Q2r l n ≠ 0 then Q2r l n else X0x k need l.length:=by
 unfold Q8n;cases Q8j k with
 | false=>rfl
 | true =>
   simp only [Q0g,if_true]
   by_cases h:12 < l.length
   . simp [h]
   . by_cases h2:Q2r l n = 0
     . simp only [h,h2,if_false,if_true]
       simp;intro h3; exact h3.symm
     . simp [h,h2]
theorem X8r (w:World) (k:ByteArray) (iv:Value) (need:Int) (l:List Int) (n:Int) (hl:Q0e w iv l) :
    Calls Tryz.prog 68 #[.agg #[.string k,.int .i64 need,iv],.int .i64 n] w fun e w'=>e = .returned (.int .i64 (Q8n k need l n)) /\ Ext w w':=by
 obtain ⟨A,cap,rfl,hl1,hcap,hc⟩:=hl.opened;have HL:=Lib.hid hl;have HG:=Lib.hid (Y2o k need l n);have HN:Hid (X0x k need l.length = if k = Q6b then Q0k need 1 l.length else Q0k need 0 0):=by exact (rfl:X0x k need l.length = _)
 have HKB:=Lib.hid (Z0t k);obtain ⟨kb,hkb⟩:∃ kb,Q8j k = kb:=⟨_,rfl⟩;rw [hkb] at HG HKB;clear hl hc hkb;go_enter Tryz.func68,Tryz.ntmps68;go_wp2_with fail;change Calls _ _ _ ((w.alloc (.cells #[.string k,.int .i64 need,.slice A l.length cap] 97)).alloc (.cells #[.string X0g,.string sOr,.string Q6b] 9)) _;obtain ⟨W,hWW,k0,k1,HXW,eW⟩:=Q5l w 97 #[.string k,.int .i64 need,.slice A l.length cap] 9 #[.string X0g,.string sOr,.string Q6b];rw [hWW];clear hWW;have c0:=k0.cell 0;have c1:=k0.cell 1;have c2:=k0.cell 2;simp only [Go.Tw.gA,Go.Tw.gB,Go.Tw.gC] at c0 c1 c2;have hss:X5n W (.slice (some ⟨w.heap.size + 1,0,none⟩) 3 3) [X0g,sOr,Q6b]:=⟨fun j=>[Value.string X0g,.string sOr,.string Q6b].getD j undef,⟨_,3,rfl,by simp,by simp,fun j hj=>⟨_,0,rfl,by
  have hj3:j < 3:=by simpa using hj
  rw [Nat.zero_add,k1.cell j];have:j = 0 ∨ j = 1 ∨ j = 2:=by omega
  rcases this with rfl | rfl | rfl <;> rfl⟩⟩,fun j hj=>by
  have hj3:j < 3:=by simpa using hj
  have:j = 0 ∨ j = 1 ∨ j = 2:=by omega
  rcases this with rfl | rfl | rfl <;> rfl⟩
 refine (Y3p _ _ _ k hss).mono ?_;rintro e w' ⟨rfl,rfl⟩;rw [HKB.out];have HL:=Lib.hid (HL.out.ext HXW.out);clear hss k0 k1;cases kb with
 | false =>
   go_wp2;go_ret;exact ⟨Q0y (by rw [HG.out]; rfl),HXW.out⟩
 | true =>
   by_cases hb:12 < l.length
   . have hb':(12:Int) < (l.length:Int):=by omega
     have HB:=Lib.hid hb; clear hb;go_wp2;go_ret;exact ⟨Q0y (by rw [HG.out,if_neg (by decide),if_pos HB.out]),HXW.out⟩
   . have hb':¬ (12:Int) < (l.length:Int):=by omega
     have HB:=Lib.hid hb; clear hb;have HCL:=Lib.hid (X1s W _ l n HL.out);obtain ⟨E,hE⟩:∃ E,Q2r l n = E:=⟨_,rfl⟩;rw [hE] at HCL HG;clear hE;go_wp2_with fail;refine HCL.out.mono ?_;rintro e w1 ⟨rfl,hx1⟩;replace c0:=hx1.cell c0;replace c1:=hx1.cell c1;replace c2:=hx1.cell c2;have HXX:=Lib.hid (HXW.out.trans hx1)
     by_cases hE:E = 0
     . have hne:(E != 0) = false:=by simp [hE]
       have HE:=Lib.hid hE; clear hE
       by_cases hv:k = Q6b
       . have HV:=Lib.hid hv
         rw [hv] at c0;unfold Q6b at c0;have hl2:(0:Int) <= (l.length:Int):=by omega
         clear hv;go_wp2_with (go_at_call 65; refine (Q7o _ _ _ _).mono ?_; rintro e w' ⟨rfl,rfl⟩);go_ret;exact ⟨Q0y (by rw [HG.out,if_neg (by decide),if_neg HB.out,if_neg (by rw [HE.out]; simp),HN.out,if_pos HV.out]),HXX.out⟩
       . have hv':=Q4d X6d hv
         have HV:=Lib.hid hv;clear hv;go_wp2_with (go_at_call 65; refine (Q7o _ _ _ _).mono ?_; rintro e w' ⟨rfl,rfl⟩);go_ret;exact ⟨Q0y (by rw [HG.out,if_neg (by decide),if_neg HB.out,if_neg (by rw [HE.out]; simp),HN.out,if_neg HV.out]),HXX.out⟩
     . have hne:(E != 0) = true:=by simp [hE]
       have HE:=Lib.hid hE; clear hE;go_wp2;go_ret;exact ⟨Q0y (by rw [HG.out,if_neg (by decide),if_neg HB.out,if_pos HE.out]),HXX.out⟩
end Go.Proofs
