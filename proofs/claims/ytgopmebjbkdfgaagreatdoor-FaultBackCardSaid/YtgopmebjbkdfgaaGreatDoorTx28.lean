/- Contract of the law's own function: own. -/
import Derived.Test.YtgopmebjbkdfgaaGreatDoorTx26
import Derived.Test.YtgopmebjbkdfgaaGreatDoorTx27
import Derived.Deep.DeepMust
set_option maxRecDepth 1000000
set_option maxHeartbeats 64000000
set_option linter.unusedVariables false
set_option linter.unusedSimpArgs false
set_option linter.constructorNameAsVariable false
namespace Go.Proofs
open Go.RowKit Go.Tw Go.Flow
theorem Tryz.X5f (w:World):(sizeOf 29).run Tryz.prog w = .ok 1 w:=by kernel_rfl
theorem Tryz.X4k (w:World):(sizeOf 30).run Tryz.prog w = .ok 1 w:=by kernel_rfl
theorem Tryz.X8l (w:World):(sizeOf 31).run Tryz.prog w = .ok 1 w:=by kernel_rfl
theorem Q2y {K:Value -> World -> Prop} {o:Oper} {a:Act} {w:World} (T E:TypeId) (x:Operand) (ho:o.op = .buildSlice T 1 #[(0,x)]) {u:Value} (hx:a.eval x = u) (hr:(Instr.buildSlice T 1 #[(0,u)]).run Tryz.prog w = .ok (.slice (some ⟨w.heap.size,0,none⟩) 1 1) (w.alloc (.cells u.cells E)))
    (h:K (.slice (some ⟨w.heap.size,0,none⟩) 1 1) (w.alloc (.cells u.cells E))):gives Tryz.prog K ((execOp a.eval o).run Tryz.prog w):=by
 unfold execOp;simp only [ho,hx,List.map_toArray,List.map_cons,List.map_nil,Sem.run_bind,hr,Result.andThen_ok,Sem.run_pure];exact h
theorem X3g (w:World) (s:ByteArray) (c:Int) (b:Option Addr) (n cp:Nat):(Instr.buildSlice 30 1 #[(0,.agg #[.string s,.int .i64 c,.slice b n cp])]).run Tryz.prog w = .ok (.slice (some ⟨w.heap.size,0,none⟩) 1 1) (w.alloc (.cells #[.string s,.int .i64 c,.slice b n cp] 106)):=by kernel_rfl
theorem X5c (w:World) (s:ByteArray) (c:Int) (b:Option Addr) (n cp:Nat):(Instr.buildSlice 31 1 #[(0,.agg #[.string s,.int .i64 c,.slice b n cp])]).run Tryz.prog w = .ok (.slice (some ⟨w.heap.size,0,none⟩) 1 1) (w.alloc (.cells #[.string s,.int .i64 c,.slice b n cp] 114)):=by kernel_rfl
theorem Z5o {t:Tree} {mc:Nat -> Value} {k:Nat} {x:Value} {nm:ByteArray} {ch:Int} (hn:cName t.causes k = nm) (hc:Q1k t.causes k = ch):(List.range k).map (cF t mc) ++ [(nm,ch,x)] = (List.range (k + 1)).map (cF t fun j=>if j = k then x else mc j):=by
 rw [List.range_succ,List.map_append]
 congr 1
 . apply List.map_congr_left
   intro j hj;have:j ≠ k:=by have:=List.mem_range.1 hj; omega
   simp [cF,this]
 . simp [cF,hn,hc]
theorem Z5i {t:Tree} {mg:Nat -> Value} {k:Nat} {x:Value} {nm:ByteArray} {ch:Int} (hn:Q2f t.gates k = nm) (hc:Q3e t.gates k = ch):(List.range k).map (gF t mg) ++ [(nm,ch,x)] = (List.range (k + 1)).map (gF t fun j=>if j = k then x else mg j):=by
 rw [List.range_succ,List.map_append]
 congr 1
 . apply List.map_congr_left
   intro j hj;have:j ≠ k:=by have:=List.mem_range.1 hj; omega
   simp [gF,this]
 . simp [gF,hn,hc]
theorem Q9r {nm:ByteArray} {ch:Int} {A:Option Addr} {n c:Nat}:∀ u ∈ enc3 (nm,ch,Value.slice A n c),u.oneCell' = true:=by
 intro u hu;simp only [enc3,List.mem_cons,List.not_mem_nil,or_false] at hu
 rcases hu with rfl | rfl | rfl <;> rfl
theorem Y6x {w w':World} {base:Nat} {v a:Value} {t:Tree} (h:Q1o w base 103 2 X0z v t.basics) (hs:Q3m w' a t.basics):Q3m w v t.basics:=by
 obtain ⟨_,_,_,hl,_⟩:=hs.opened;refine h.rows hl Q9y (fun x hx=>?_) (fun c c' x hc h=>?_)
 . obtain ⟨k,hk,rfl⟩:=List.getElem_of_mem hx
   have:=hs.short hk;unfold bName at this;rw [getD_at hk] at this;exact ⟨rfl,rfl,this⟩
 . obtain ⟨h1,h2,h3⟩:=h
   exact ⟨by rw [<- hc 0 (by omega)]; exact h1,by rw [<- hc 1 (by omega)]; exact h2,h3⟩
theorem Y6u {w w':World} {base:Nat} {v a:Value} {t:Tree} {mc:Nat -> Value} (h:Q1o w base 106 3 enc3 v ((List.range t.causes.length).map (cF t mc))) (hs:Q3n w' a t.causes) (hm:∀ i,i < t.causes.length -> Q0s w 0 3 (.int .i64) (mc i) (Q0f t.causes i)):Q3n w v t.causes:=by
 obtain ⟨_,_,_,hl,_⟩:=hs.opened;refine h.rowsOf (by simp) hl Q0u (fun j h1 h2=>?_) (fun c c' x hc h=>?_)
 . have hsh:=hs.short h2
   have hmm:=(hm j h2).ints hsh.2;have e:t.causes.getD j default = t.causes[j]:=getD_at h2;simp only [List.getElem_map,List.getElem_range];refine ⟨?_,?_,?_,?_⟩
   . show Value.string (cName t.causes j) = _; unfold cName; rw [e]
   . show Value.int .i64 (Q1k t.causes j) = _; unfold Q1k; rw [e]
   . show Q0e w (mc j) _; unfold Q0f at hmm; rw [e] at hmm; exact hmm
   . have:=hsh.1; unfold cName at this; rw [e] at this; exact this
 . obtain ⟨h1,h2,h3,h4⟩:=h
   exact ⟨by rw [<- hc 0 (by omega)]; exact h1,by rw [<- hc 1 (by omega)]; exact h2,by rw [<- hc 2 (by omega)]; exact h3,h4⟩
theorem Y9c {w w':World} {base:Nat} {v a:Value} {t:Tree} {mg:Nat -> Value} (h:Q1o w base 114 3 enc3 v ((List.range t.gates.length).map (gF t mg))) (hs:Q4b w' a t.gates) (hm:∀ i,i < t.gates.length -> Q0s w 0 3 (.int .i64) (mg i) (Q0m t.gates i)):Q4b w v t.gates:=by
 obtain ⟨_,_,_,hl,_⟩:=hs.opened;refine h.rowsOf (by simp) hl Q0u (fun j h1 h2=>?_) (fun c c' x hc h=>?_)
 . have hsh:=hs.short h2
   have hmm:=(hm j h2).ints hsh.2;have e:t.gates.getD j default = t.gates[j]:=getD_at h2;simp only [List.getElem_map,List.getElem_range];refine ⟨?_,?_,?_,?_⟩
   . show Value.string (Q2f t.gates j) = _; unfold Q2f; rw [e]
   . show Value.int .i64 (Q3e t.gates j) = _; unfold Q3e; rw [e]
   . show Q0e w (mg j) _; unfold Q0m at hmm; rw [e] at hmm; exact hmm
   . have:=hsh.1; unfold Q2f at this; rw [e] at this; exact this
 . obtain ⟨h1,h2,h3,h4⟩:=h
   exact ⟨by rw [<- hc 0 (by omega)]; exact h1,by rw [<- hc 1 (by omega)]; exact h2,by rw [<- hc 2 (by omega)]; exact h3,h4⟩
structure Few (t:Tree):Prop where
 b:t.basics.length <= 1000
 c:t.causes.length <= 1000
 g:t.gates.length <= 1000
 m:∀ k,k < t.causes.length -> (Q0f t.causes k).length <= 1000
 i:∀ k,k < t.gates.length -> (Q0m t.gates k).length <= 1000
theorem _root_.Go.Proofs.Fits.few {t:Tree} {n:Nat} (h:Fits t n) (hn:n <= 900):Few t :=
 ⟨by have:=h.b; omega,by have:=h.c; omega,by have:=h.g; omega,fun k hk=>by have:=h.m k hk; omega,fun k hk=>by have:=h.i k hk; omega⟩
theorem X8o {w w':World} {v:Value} {l:List Int} {g:Nat} {T S:TypeId} {cs:Array Value} (h:Q0s w 0 T (Value.int .i64) v l) (hb:Blk w g S cs) (hT:S ≠ T) (ho:∀ k,k ≠ g -> w'.heap[k]? = w.heap[k]?):Q0s w' 0 T (Value.int .i64) v l:=by
 obtain ⟨h1,h2⟩:=h;refine ⟨h1,?_⟩
 rcases h2 with h2 | ⟨g',cap,cur,hv,hbb,hgl,r⟩
 . exact .inl h2
 . refine .inr ⟨g',cap,cur,hv,hbb,?_,r⟩
   rw [ho g' ?_]; exact hgl;rintro rfl;unfold Blk at hb;rw [hb] at hgl;injection hgl with hgl;injection hgl with _ h3 _;exact hT h3
theorem Y9n {w w':World} {v:Value} {l:List Int} {O:Nat} {T S:TypeId} {cs:Array Value} (h:Q0s w 0 T (Value.int .i64) v l) (hb:Blk w O S cs) (hT:S ≠ T) (ho:Off O w w'):Q0s w' 0 T (Value.int .i64) v l:=by
 obtain ⟨h1,h2⟩:=h;refine ⟨h1,?_⟩
 rcases h2 with h2 | ⟨g',cap,cur,hv,hbb,hgl,r⟩
 . exact .inl h2
 . refine .inr ⟨g',cap,cur,hv,hbb,?_,r⟩
   rw [ho.2.2 g' (Array.getElem?_eq_some_iff.1 hgl).1 ?_]; exact hgl;rintro rfl;unfold Blk at hb;rw [hb] at hgl;injection hgl with hgl;injection hgl with _ h3 _;exact hT h3
theorem X1u {α β γ:Type} {w:World} {a b c:Value} {B1 B2 B3 k1 k2 k3:Nat} {e1 e2 e3:TypeId} {f1:α -> List Value} {f2:β -> List Value} {f3:γ -> List Value} {l1:List α} {l2:List β} {l3:List γ} (h1:Q1o w B1 e1 k1 f1 a l1) (h2:Q1o w B2 e2 k2 f2 b l2) (h3:Q1o w B3 e3 k3 f3 c l3):∀ u ∈ (#[a,b,c]:Array Value).toList,u.oneCell' = true:=by
 obtain ⟨_,_,ha,_⟩:=h1.shape;obtain ⟨_,_,hb,_⟩:=h2.shape;obtain ⟨_,_,hc,_⟩:=h3.shape;intro u hu;simp only [List.mem_cons,List.not_mem_nil,or_false] at hu
 rcases hu with rfl | rfl | rfl
 . rw [ha]; rfl
 . rw [hb]; rfl
 . rw [hc]; rfl
theorem Y8i (w:World) (v:Value) (t:Tree) (ht:IsTree w v t) (hf:Few t) :
    Calls Tryz.prog 10 #[v] w fun e w'=>∃ u,e = .returned u /\ IsTree w' u t /\ Ext w w':=by
 obtain ⟨i0,hi,hz0,hz1,hz2⟩:=info_parts Tryz.Z6v;obtain ⟨j0,ji,jz0,jz1,jz2⟩:=info_parts Tryz.Z5v;obtain ⟨l0,li,lz0,lz1,lz2⟩:=info_parts Tryz.Z5z;obtain ⟨a,b,c,rfl,h3⟩:=ht;obtain ⟨A,capa,rfl,hl1,hcap1,_⟩:=h3.basics.opened;obtain ⟨B,capb,rfl,hl2,hcap2,_⟩:=h3.causes.opened;obtain ⟨G,capg,rfl,hl3,hcap3,_⟩:=h3.gates.opened;have HT0:=Lib.hid h3;clear h3;have HF:=Lib.hid hf;have hnb:=hf.b;have hnc:=hf.c;have hng:=hf.g;clear hf;go_enter Tryz.func10,Tryz.ntmps10;go_wp2_with fail;change Code.wp _ _ _ _ (((w.alloc (.cells #[.slice A t.basics.length capa,.slice B t.causes.length capb,.slice G t.gates.length capg] 26)).alloc (.cells #[.slice none 0 0,.slice none 0 0,.slice none 0 0] 33)).alloc (.cells #[.slice none 0 0,.slice none 0 0,.slice none 0 0] 33));obtain ⟨W,hWW,k0,k1,k2,HXW,eW⟩:=X8e w 26 #[.slice A t.basics.length capa,.slice B t.causes.length capb,.slice G t.gates.length capg] 33 #[.slice none 0 0,.slice none 0 0,.slice none 0 0] 33 #[.slice none 0 0,.slice none 0 0,.slice none 0 0];rw [hWW];clear hWW;have HT:=Lib.hid (HT0.out.ext HXW.out);have K0:=Lib.hid k0;have R0:=Lib.hid k1;have O0:=Lib.hid k2;obtain ⟨O,hO⟩:∃ O,w.heap.size + 1 + 1 = O:=⟨_,rfl⟩;rw [hO] at O0 eW ⊢;have hwO:w.heap.size + 1 + 1 = O:=hO;clear k0 k1 k2 hO;go_wp2
 go_loopw [13] (fun i wr=>∃ (k:Nat) (bv:Value),k <= t.basics.length /\ i = .int .i64 k /\ Q1o wr (O + 1) 103 2 X0z bv (t.basics.take k) /\ Blk wr O 33 #[bv,.slice none 0 0,.slice none 0 0] /\ Below O W wr) (fun i _=>t.basics.length - (intOf i).toNat)
 case atStart=>exact ⟨0,_,Nat.zero_le _,rfl,Q1o.nil _ _ _ _ _,O0.out,Below.refl _ _⟩
 case round =>
  obtain ⟨k,bv,hk,rfl,hown,hblk,hbel⟩:=hrel;have HBEL:=Lib.hid hbel;have hwrs:O + 1 <= wr.heap.size:=hblk.lt
  by_cases hlt:k < t.basics.length
  . obtain ⟨_,_,he0,_,_,hcc⟩:=HT.out.basics.opened
    cases he0;obtain ⟨b1,off,rfl,hb1,e0,e1,_⟩:=hcc k hlt;have hb1':b1 < O:=by
     obtain ⟨_,_,he0,_,_,hcc0⟩:=HT0.out.basics.opened;cases he0;obtain ⟨b1',off',hbb,hb1',_⟩:=hcc0 k hlt;cases hbb;omega
    replace e0:=(hbel.cell (p:=⟨b1,off + k * 2,none⟩) hb1').trans e0;replace e1:=(hbel.cell (p:=⟨b1,off + k * 2 + 1,none⟩) hb1').trans e1;have HTK:Hid (t.basics.take (k + 1) = t.basics.take k ++ [⟨bName t.basics k,Q1b t.basics k⟩]):=by exact Y1a hlt
    obtain ⟨nm,hnm⟩:∃ x,bName t.basics k = x:=⟨_,rfl⟩;obtain ⟨ch,hch⟩:∃ x,Q1b t.basics k = x:=⟨_,rfl⟩;rw [hnm] at e0 HTK;rw [hch] at e1 HTK;have hlen:(t.basics.take k).length = k:=by simp; omega
    obtain ⟨tk,htk⟩:∃ x,t.basics.take k = x:=⟨_,rfl⟩;rw [htk] at hown hlen HTK;have xb:=Ext.box wr (.cells #[.string nm,.int .i64 ch] 48);have kb:=Blk.made wr 48 #[.string nm,.int .i64 ch];have hown2:=hown.below xb;have hblk2:=hblk.ext xb;have c0:=hblk2.cell 0;have hkI:(k:Int) < t.basics.length:=by omega
    have hsz2:(wr.alloc (.cells #[.string nm,.int .i64 ch] 48)).heap.size = wr.heap.size + 1:=by simp
    simp only [Go.Tw.gA,Go.Tw.gB,Go.Tw.gC] at c0;have hs2:(wr.alloc (.cells #[.string nm,.int .i64 ch] 48)).heap.size = wr.heap.size + 1:=by simp
    have x3:=Ext.box (wr.alloc (.cells #[.string nm,.int .i64 ch] 48)) (.cells #[.string nm,.int .i64 ch] 103);have kb3:=Blk.made (wr.alloc (.cells #[.string nm,.int .i64 ch] 48)) 103 #[.string nm,.int .i64 ch];rw [hs2] at kb3;have hs3:O + 1 <= ((wr.alloc (.cells #[.string nm,.int .i64 ch] 48)).alloc (.cells #[.string nm,.int .i64 ch] 103)).heap.size:=by simp; omega
    obtain ⟨A9,c9,hbv,_⟩:=hown2.shape;rw [hlen] at hbv;have hown3:=hown2.below x3;unfold Q1o at hown3;rw [hlen] at hown3;have HB3:=Lib.hid (hblk2.ext x3);have HKB:=Lib.hid kb3;have HOW:=Lib.hid hown3;have HS3:=Lib.hid hs3;have HXB:=Lib.hid (xb.trans x3);have HNB:=Lib.hid hnb;clear hcc hown hblk hnm hch htk hbel hown2 hblk2 kb3 hown3 hs3 xb x3 hs2 kb;subst hbv;go_wp2_with (first | (at_builtin; go_must (refine wpList_append_own _ rfl _ _ 29 rfl (O + 1) 103 i0 (.agg #[.string emp,.int .i64 0]) 2 24 Tryz.underlying29 hi hz0 hz1 hz2 rfl (by decide) _ _ _ rfl HOW.out ⟨wr.heap.size + 1,0,none⟩ 1 1 [.string nm,.int .i64 ch] rfl rfl (Q4s HKB.out) ?_ ?_ ?_ HS3.out ?_; (focus (intro u hu; simp only [List.mem_cons,List.not_mem_nil,or_false] at hu; rcases hu with rfl | rfl <;> rfl)); (focus (unfold maxLen; omega)); (focus omega); intro v' w1 hown' hgrow _; refine halted ?_)))
    have HB4:=Lib.hid (Q4z HB3.out HOW.out (by omega) hgrow)
    have HO4:Hid (Q1o w1 (O + 1) 103 2 X0z v' (t.basics.take (k + 1))):=Lib.hid (by rw [HTK.out]; exact Q1o.snoc (by rw [hlen]; exact hown'))
    have HBE4:Hid (Below O W w1):=Lib.hid (HBEL.out.trans ((HXB.out.mono (by omega)).trans (Below.grown (Below.refl _ _) hgrow (by have:=HS3.out; omega) (fun j hj=>by have:=(HOW.out.lt j hj).1; omega))))
    have hsh:∃ A c,v' = .slice A (k + 1) c:=by
     obtain ⟨A,c,h,_⟩:=HO4.out.shape;exact ⟨A,c,by rw [h]; congr 1; simp; omega⟩
    obtain ⟨A8,c8,hv'⟩:=hsh;rw [hv'] at HO4 ⊢;clear hown' hgrow hv' c0 e0 e1;unfold Q2t;go_wp2_with (refine Q0o rfl _ _ 29 rfl Tryz.X5f (g:=O) (k:=0) (u:=.slice A8 (k + 1) c8) rfl rfl rfl rfl HB4.out (by show 0 < 3; omega) ?_; intro w5 hb5 hl5 ho5; refine halted ?_)
    have HB5:=Lib.hid hb5;have HO5:=Lib.hid (HO4.out.only (by omega) ho5)
    have HBE5:=Lib.hid (HBE4.out.trans (hl5 O (Nat.le_refl _)));clear hb5 hl5 ho5;unfold Q2t;go_wp2;go_roundw
    case rel=>exact ⟨k + 1,_,by omega,by go_num,HO5.out,HB5.out,HBE5.out⟩
    case measure=>simp [intOf]; omega
  . have hkn:k = t.basics.length:=by omega
    subst hkn;rw [List.take_length] at hown;have HBV:=Lib.hid hown;have HB1:=Lib.hid hblk;have HBE1:=Lib.hid hbel;have kt:=K0.out.below hbel (by omega)
    have c1:=kt.cell 1;simp only [Go.Tw.gA,Go.Tw.gB,Go.Tw.gC] at c1;obtain ⟨W1,hW1⟩:∃ X,wr = X:=⟨_,rfl⟩;rw [hW1] at HBV HB1 HBE1 c1 hwrs ⊢;clear hown hblk hbel HBEL hW1 kt;go_wp2;clear c1;obtain ⟨B2,hB2⟩:∃ B,W1.heap.size = B:=⟨_,rfl⟩;have hB2O:O < B2:=by omega
    go_loopw [27] (fun i wr=>∃ (k:Nat) (xv:Value) (mc:Nat -> Value),k <= t.causes.length /\ i = .int .i64 k /\ Q1o wr B2 106 3 enc3 xv ((List.range k).map (cF t mc)) /\ (∀ j,j < k -> Q0s wr 0 3 (.int .i64) (mc j) (Q0f t.causes j)) /\ Blk wr O 33 #[bv,xv,.slice none 0 0] /\ Off O W1 wr) (fun i _=>t.causes.length - (intOf i).toNat)
    case atStart=>exact ⟨0,_,fun _=>undef,Nat.zero_le _,rfl,Q1o.nil _ _ _ _ _,fun j hj=>by omega,HB1.out,Off.refl _ _⟩
    case round =>
     obtain ⟨k,xv,mc,hk,rfl,hown,hmem,hblk,hoff⟩:=hrel;have HOFF:=Lib.hid hoff;have hwrs:O + 1 <= wr.heap.size:=hblk.lt;have hbel:=HBE1.out.trans hoff.1
     by_cases hlt:k < t.causes.length
     . obtain ⟨_,_,he0,_,_,hcc⟩:=HT0.out.causes.opened
       cases he0;obtain ⟨b1,off,mvv,rfl,hb1,e0,e1,e2,hM,_⟩:=hcc k hlt;have hb1':b1 < O:=by omega
       replace e0:=(hbel.cell (p:=⟨b1,off + k * 3,none⟩) hb1').trans (HXW.out.cell e0);replace e1:=(hbel.cell (p:=⟨b1,off + k * 3 + 1,none⟩) hb1').trans (HXW.out.cell e1);replace e2:=(hbel.cell (p:=⟨b1,off + k * 3 + 2,none⟩) hb1').trans (HXW.out.cell e2);obtain ⟨A3,cap3,rfl,_,_,_⟩:=hM.opened;have hMr:=hM.ext (Below.trans HXW.out (hbel.mono (B':=w.heap.size) (by omega)))
       obtain ⟨nm,hnm⟩:∃ x,cName t.causes k = x:=⟨_,rfl⟩;obtain ⟨ch,hch⟩:∃ x,Q1k t.causes k = x:=⟨_,rfl⟩;obtain ⟨ml,hml⟩:∃ x,Q0f t.causes k = x:=⟨_,rfl⟩;rw [hnm] at e0;rw [hch] at e1;rw [hml] at e2 hMr;have HNM:=Lib.hid hnm;have HCH:=Lib.hid hch;have HML:=Lib.hid hml;have HLE:Hid (ml.length <= 1000):=Lib.hid (by rw [<- hml]; exact HF.out.m k hlt)
       have xb:=Ext.box wr (.cells #[.string nm,.int .i64 ch,.slice A3 ml.length cap3] 50);have kb:=Blk.made wr 50 #[.string nm,.int .i64 ch,.slice A3 ml.length cap3];have HM:=Lib.hid (hMr.ext xb);have HOW:=Lib.hid (hown.below xb);have HME:=Lib.hid (fun j (hj:j < k)=>(hmem j hj).below xb);have HBK:=Lib.hid (hblk.ext xb);have HOF:=Lib.hid (hoff.ext xb (by omega))
       have hs5:(wr.alloc (.cells #[.string nm,.int .i64 ch,.slice A3 ml.length cap3] 50)).heap.size = wr.heap.size + 1:=by simp
       have hwB:B2 <= wr.heap.size:=by have:=hoff.2.1; omega
       have hkI:(k:Int) < t.causes.length:=by omega
       clear hown hmem hblk hoff hcc hM hnm hch hml xb hMr hbel
       go_light
       go_wp2;obtain ⟨W5,hW5⟩:∃ X,wr.alloc (.cells #[.string nm,.int .i64 ch,.slice A3 ml.length cap3] 50) = X:=⟨_,rfl⟩;rw [hW5] at HM HOW HME HBK HOF kb hs5 ⊢;have KB:=Lib.hid kb;have hdr:=(Ext.refl W5).drew;clear hW5 kb e0 e1 e2;refine Flow.Q3x [.p,.w,.p,.w,.p,.w,.p,.w,.w,.p,.w,.last,.last,.last] [0,1,2,3,4,5,6,7,8,9,10,11,12,13] [[],[0],[],[2],[],[4],[],[6],[6,7],[2,3,4,5,6,7,8],[2,3,4,5,6,7,8,9],[0,1,2,3,4,5,6,7,8,9,10],[0,1,2,3,4,5,6,7,8,9,10,11],[0,1,2,3,4,5,6,7,8,9,10,11,12]] [11,12,13]
        [.c 0 (.pointer (some ⟨O,1,none⟩)),.c 1 (xv),.c 2 (.pointer (some ⟨wr.heap.size,0,none⟩)),.c 3 (.string nm),.c 4 (.pointer (some ⟨wr.heap.size,1,none⟩)),.c 5 (.int .i64 ch),.c 6 (.pointer (some ⟨wr.heap.size,2,none⟩)),.c 7 (.slice A3 ml.length cap3),⟨fun v wz=>(fun v w'=>Q0s w' 0 3 (.int .i64) (v 8) ml) v wz,fun _ _ _ hx h=>Q0s.below h hx⟩,⟨fun v wz=>(fun v w'=>v 9 = .agg #[.string nm,.int .i64 ch,v 8]) v wz,by intro _ _ _ _ h; exact h⟩,⟨fun v wz=>(fun v w'=>∃ g,v 10 = .slice (some ⟨g,0,none⟩) 1 1 /\ Blk w' g 106 (enc3 (nm,ch,v 8)).toArray) v wz,by rintro v a b hx ⟨g,h1,h2⟩; exact ⟨g,h1,h2.ext hx⟩⟩,.none,.none,.none]
        [fun v w1 w'=>Q1o w' B2 106 3 enc3 (v 11) ((List.range k).map (cF t mc) ++ [(nm,ch,v 8)]) /\ w1.grownBy w' xv.ownBlock,fun v w1 w'=>v 12 = .pointer (some ⟨O,1,none⟩) /\ Q1o w' B2 106 3 enc3 (v 11) ((List.range k).map (cF t mc) ++ [(nm,ch,v 8)]) /\ w1.grownBy w' xv.ownBlock,fun v w1 w'=>∃ x wm,Q1o wm B2 106 3 enc3 x ((List.range k).map (cF t mc) ++ [(nm,ch,v 8)]) /\ w1.grownBy wm xv.ownBlock /\ w' = wm.setCell ⟨O,1,none⟩ x] (by kernel_rfl) rfl (by kernel_rfl) ⟨?g0,?g1,?g2,?g3,?g4,?g5,?g6,?g7,?g8,?g9,?g10,?g11,?g12,?g13,trivial⟩ ?post
       case g0 | g2 | g4 | g6=>
        intro v w1 hx;intro bb hbb;subst hbb;refine ⟨_,fun w=>?_,rfl⟩;go_simp
       case g1 | g3 | g5 | g7=>
        intro v w1 hx;(repeat intro (zq:v _ = _));intro bb hbb;subst hbb;have n0:w1.cell? ⟨O,1,none⟩ = some xv:=(HBK.out.ext (hdr.trans hx)).cell 1;have n1:w1.cell? ⟨wr.heap.size,0,none⟩ = some (.string nm):=(KB.out.ext (hdr.trans hx)).cell 0;have n2:w1.cell? ⟨wr.heap.size,1,none⟩ = some (.int .i64 ch):=(KB.out.ext (hdr.trans hx)).cell 1;have n3:w1.cell? ⟨wr.heap.size,2,none⟩ = some (.slice A3 ml.length cap3):=(KB.out.ext (hdr.trans hx)).cell 2;intro K hK;go_simp;exact hK _ _ (Ext.refl _) rfl
       case g8=>
        intro v w1 hx;(repeat intro (zq:v _ = _));intro bb hbb;subst hbb;intro K hK;go_simp;refine Q0d (Y2k w1 _ _ (HM.out.ext (hdr.trans hx)) (by have:=HLE.out; omega)) ?_
        rintro e w2 ⟨u,rfl,hown,hx2⟩;exact ⟨_,rfl,hK _ _ hx2 (Q0s.weaken hown (Nat.zero_le _))⟩
       case g9=>
        intro v w1 hx (q2:v 2 = _) (q3:v 3 = _) (q4:v 4 = _) (q5:v 5 = _) (q6:v 6 = _) (q7:v 7 = _) (q8:(fun v w'=>Q0s w' 0 3 (.int .i64) (v 8) ml) v w1);intro bb hbb;obtain ⟨s9,c9,e9,_⟩:=Q0s.shape q8;have o1:bb.eval (.tmp 34) = .string nm:=by rw [hbb]; dsimp only; (try simp (discharger:=decide) only [eval_put_ne]); rw [Q0a (by simp only [size_put]; exact (by decide:34 < 67))]; exact q3
        have o2:bb.eval (.tmp 36) = .int .i64 ch:=by rw [hbb]; dsimp only; (try simp (discharger:=decide) only [eval_put_ne]); rw [Q0a (by simp only [size_put]; exact (by decide:36 < 67))]; exact q5
        have o3:bb.eval (.tmp 39) = v 8:=by rw [hbb]; dsimp only; (try simp (discharger:=decide) only [eval_put_ne]); rw [Q0a (by simp only [size_put]; exact (by decide:39 < 67))]
        rw [e9] at o3;exact ⟨_,fun w=>Q4j _ (.tmp 34) (.tmp 36) (.tmp 39) rfl o1 o2 o3 (fun w=>Q6s w _ _ _ _ _),by show Value.agg #[.string nm,.int .i64 ch,.slice s9 ml.length c9] = Value.agg #[.string nm,.int .i64 ch,v 8]; rw [e9]⟩
       case g10=>
        intro v w1 hx (q2:v 2 = _) (q3:v 3 = _) (q4:v 4 = _) (q5:v 5 = _) (q6:v 6 = _) (q7:v 7 = _) (q8:(fun v w'=>Q0s w' 0 3 (.int .i64) (v 8) ml) v w1) (q9:(fun v w'=>v 9 = .agg #[.string nm,.int .i64 ch,v 8]) v w1);intro bb hbb;intro K hK;obtain ⟨s9,c9,e9,_⟩:=Q0s.shape q8;have o1:bb.eval (.tmp 40) = .agg #[.string nm,.int .i64 ch,v 8]:=by rw [hbb]; dsimp only; (try simp (discharger:=decide) only [eval_put_ne]); rw [Q0a (by simp only [size_put]; exact (by decide:40 < 67))]; exact q9
        rw [e9] at o1;have hbl:Blk (w1.alloc (.cells (Value.agg #[.string nm,.int .i64 ch,.slice s9 ml.length c9]).cells 106)) w1.heap.size 106 (enc3 (nm,ch,v 8)).toArray:=by rw [e9]; exact Blk.made _ _ _
        exact Q2y 30 106 (.tmp 40) rfl o1 (X3g w1 _ _ _ _ _) (hK _ _ (Ext.box _ _) ⟨_,rfl,hbl⟩)
       case g11=>
        intro v w1 hx (q0:v 0 = _) (q1:v 1 = _) (q2:v 2 = _) (q3:v 3 = _) (q4:v 4 = _) (q5:v 5 = _) (q6:v 6 = _) (q7:v 7 = _) (q8:(fun v w'=>Q0s w' 0 3 (.int .i64) (v 8) ml) v w1) _ (q10:(fun v w'=>∃ g,v 10 = .slice (some ⟨g,0,none⟩) 1 1 /\ Blk w' g 106 (enc3 (nm,ch,v 8)).toArray) v w1);intro wl hT;obtain rfl:wl = w1:=hT;intro bb hbb;intro K hK;obtain ⟨s9,c9,e9,_⟩:=Q0s.shape q8;obtain ⟨g,hg10,hb10⟩:=q10;have o1:bb.eval (.tmp 32) = xv:=by rw [hbb]; dsimp only; (try simp (discharger:=decide) only [eval_put_ne]); rw [Q0a (by simp only [size_put]; exact (by decide:32 < 67))]; exact q1
        have o2:bb.eval (.tmp 41) = .slice (some ⟨g,0,none⟩) 1 1:=by rw [hbb]; dsimp only; (try simp (discharger:=decide) only [eval_put_ne]); rw [Q0a (by simp only [size_put]; exact (by decide:41 < 67))]; exact hg10
        have hxx:=hdr.trans hx;exact X1k _ _ 30 rfl B2 106 j0 (.agg #[.string emp,.int .i64 0,.slice none 0 0]) 3 48 Tryz.underlying30 ji jz0 jz1 jz2 rfl (by decide) enc3 Q0u xv _ (nm,ch,v 8) o1 (HOW.out.below hxx) ⟨g,0,none⟩ 1 o2 (Q4s hb10) (by rw [e9]; exact Q9r) (by simp; omega) (by decide) (by have:=hxx.size; omega) (fun v' w' h1 h2=>hK _ _ ⟨h1,h2⟩)
       case g12=>
        intro v w1 hx (q0:v 0 = _) (q1:v 1 = _) (q2:v 2 = _) (q3:v 3 = _) (q4:v 4 = _) (q5:v 5 = _) (q6:v 6 = _) (q7:v 7 = _) _ _ _;intro wl hT;replace hT:(fun v w1 w'=>Q1o w' B2 106 3 enc3 (v 11) ((List.range k).map (cF t mc) ++ [(nm,ch,v 8)]) /\ w1.grownBy w' xv.ownBlock) v w1 wl:=hT;intro bb hbb;subst hbb;intro K hK;go_simp;exact hK _ _ ⟨rfl,hT⟩
       case g13=>
        intro v w1 hx (q0:v 0 = _) (q1:v 1 = _) (q2:v 2 = _) (q3:v 3 = _) (q4:v 4 = _) (q5:v 5 = _) (q6:v 6 = _) (q7:v 7 = _) _ _ _;intro wl hT;replace hT:(fun v w1 w'=>v 12 = .pointer (some ⟨O,1,none⟩) /\ Q1o w' B2 106 3 enc3 (v 11) ((List.range k).map (cF t mc) ++ [(nm,ch,v 8)]) /\ w1.grownBy w' xv.ownBlock) v w1 wl:=hT;intro bb hbb;intro K hK;obtain ⟨hT0,hT1,hT2⟩:=hT;have hxx:=hdr.trans hx;obtain ⟨bp,cp,hsh,_⟩:=hT1.shape;have o1:bb.eval (.tmp 43) = .pointer (some ⟨O,1,none⟩):=by rw [hbb]; dsimp only; (try simp (discharger:=decide) only [eval_put_ne]); rw [Q0a (by simp only [size_put]; exact (by decide:43 < 67))]; exact hT0
        have o2:bb.eval (.tmp 42) = v 11:=by rw [hbb]; dsimp only; (try simp (discharger:=decide) only [eval_put_ne]); rw [Q0a (by simp only [size_put]; exact (by decide:42 < 67))]
        have hbl:=Q4z (HBK.out.ext hxx) (HOW.out.below hxx) hB2O hT2;exact Q2l _ _ rfl Tryz.X4k (g:=O) (k:=1) o1 o2 (by rw [hsh]; rfl) (by rw [hsh]; rfl) hbl (by show 1 < 3; omega) (fun v'=>hK _ _ ⟨v 11,wl,hT1,hT2,rfl⟩)
       case post =>
        intro v w1 hx;(iterate 8 intro (zq:v _ = _));intro (q8:(fun v w'=>Q0s w' 0 3 (.int .i64) (v 8) ml) v w1) (q9:(fun v w'=>v 9 = .agg #[.string nm,.int .i64 ch,v 8]) v w1) (q10:(fun v w'=>∃ g,v 10 = .slice (some ⟨g,0,none⟩) 1 1 /\ Blk w' g 106 (enc3 (nm,ch,v 8)).toArray) v w1);intro w2 hE;replace hE:(fun v w1 w'=>∃ x wm,Q1o wm B2 106 3 enc3 x ((List.range k).map (cF t mc) ++ [(nm,ch,v 8)]) /\ w1.grownBy wm xv.ownBlock /\ w' = wm.setCell ⟨O,1,none⟩ x) v w1 w2:=hE;simp only [Flow.acts,Act.put];go_simp;obtain ⟨x,wm,hom,hgm,rfl⟩:=hE;have hxx:=hdr.trans hx;have hbm:=Q4z (HBK.out.ext hxx) (HOW.out.below hxx) hB2O hgm;have hof:=((HOF.out.ext hxx (by omega)).grown (HOW.out.below hxx) (by omega) (by have:=hB2; omega) hgm).set 1 x
        have HO6:=Lib.hid (hom.setCell (p:=⟨O,1,none⟩) hB2O x);have HB6:=Lib.hid (hbm.set 1 x);have HOF6:=Lib.hid hof;have HME6:Hid (∀ j,j < k + 1 -> Q0s (wm.setCell ⟨O,1,none⟩ x) 0 3 (.int .i64) (if j = k then v 8 else mc j) (Q0f t.causes j)):=Lib.hid (fun j hj=>by
         by_cases hjk:j = k
         . subst hjk
           rw [if_pos rfl,HML.out];exact X1c (Q8h q8 (HOW.out.below hxx) (by decide) hgm) hbm (by decide)
         . rw [if_neg hjk]
           exact X1c (Q8h ((HME.out j (by omega)).below hxx) (HOW.out.below hxx) (by decide) hgm) hbm (by decide))
        rw [Z5o HNM.out HCH.out] at HO6;obtain ⟨w6,hw6⟩:∃ y,wm.setCell ⟨O,1,none⟩ x = y:=⟨_,rfl⟩;rw [hw6] at HO6 HB6 HOF6 HME6 ⊢;clear hw6 hom hgm hxx hx hbm hof q8 q9 q10;(repeat clear zq);go_wp2;go_roundw
        case rel=>exact ⟨k + 1,x,fun j=>if j = k then v 8 else mc j,by omega,by go_num,HO6.out,HME6.out,HB6.out,HOF6.out⟩
        case measure=>simp [intOf]; omega
     . have hkn:k = t.causes.length:=by omega
       subst hkn;have HCV:=Lib.hid hown;have HMC:=Lib.hid hmem;have HBT:=Lib.hid hblk;have HBE2:=Lib.hid hbel;have HBV2:=Lib.hid (HBV.out.off (by omega) hoff)
       have kt:=K0.out.below hbel (by omega)
       have c2:=kt.cell 2;simp only [Go.Tw.gA,Go.Tw.gB,Go.Tw.gC] at c2;obtain ⟨W2,hW2⟩:∃ X,wr = X:=⟨_,rfl⟩;rw [hW2] at HCV HMC HBT HBE2 HBV2 c2 hwrs ⊢;obtain ⟨cv,hcv⟩:∃ x,xv = x:=⟨_,rfl⟩;rw [hcv] at HCV HBT;clear hown hmem hblk hbel hoff HOFF hW2 kt hcv HBV HB1 HBE1;go_wp2;clear c2;obtain ⟨B3,hB3⟩:∃ B,W2.heap.size = B:=⟨_,rfl⟩;have hB3O:O < B3:=by omega
       go_loopw [48] (fun i wr=>∃ (k:Nat) (xv:Value) (mg:Nat -> Value),k <= t.gates.length /\ i = .int .i64 k /\ Q1o wr B3 114 3 enc3 xv ((List.range k).map (gF t mg)) /\ (∀ j,j < k -> Q0s wr 0 3 (.int .i64) (mg j) (Q0m t.gates j)) /\ Blk wr O 33 #[bv,cv,xv] /\ Off O W2 wr) (fun i _=>t.gates.length - (intOf i).toNat)
       case atStart=>exact ⟨0,_,fun _=>undef,Nat.zero_le _,rfl,Q1o.nil _ _ _ _ _,fun j hj=>by omega,HBT.out,Off.refl _ _⟩
       case round =>
        obtain ⟨k,xv,mg,hk,rfl,hown,hmem,hblk,hoff⟩:=hrel;have HOFF:=Lib.hid hoff;have hwrs:O + 1 <= wr.heap.size:=hblk.lt;have hbel:=HBE2.out.trans hoff.1
        by_cases hlt:k < t.gates.length
        . obtain ⟨_,_,he0,_,_,hcc⟩:=HT0.out.gates.opened
          cases he0;obtain ⟨b1,off,mvv,rfl,hb1,e0,e1,e2,hM,_⟩:=hcc k hlt;have hb1':b1 < O:=by omega
          replace e0:=(hbel.cell (p:=⟨b1,off + k * 3,none⟩) hb1').trans (HXW.out.cell e0);replace e1:=(hbel.cell (p:=⟨b1,off + k * 3 + 1,none⟩) hb1').trans (HXW.out.cell e1);replace e2:=(hbel.cell (p:=⟨b1,off + k * 3 + 2,none⟩) hb1').trans (HXW.out.cell e2);obtain ⟨A3,cap3,rfl,_,_,_⟩:=hM.opened;have hMr:=hM.ext (Below.trans HXW.out (hbel.mono (B':=w.heap.size) (by omega)))
          obtain ⟨nm,hnm⟩:∃ x,Q2f t.gates k = x:=⟨_,rfl⟩;obtain ⟨ch,hch⟩:∃ x,Q3e t.gates k = x:=⟨_,rfl⟩;obtain ⟨ml,hml⟩:∃ x,Q0m t.gates k = x:=⟨_,rfl⟩;rw [hnm] at e0;rw [hch] at e1;rw [hml] at e2 hMr;have HNM:=Lib.hid hnm;have HCH:=Lib.hid hch;have HML:=Lib.hid hml;have HLE:Hid (ml.length <= 1000):=Lib.hid (by rw [<- hml]; exact HF.out.i k hlt)
          have xb:=Ext.box wr (.cells #[.string nm,.int .i64 ch,.slice A3 ml.length cap3] 97);have kb:=Blk.made wr 97 #[.string nm,.int .i64 ch,.slice A3 ml.length cap3];have HM:=Lib.hid (hMr.ext xb);have HOW:=Lib.hid (hown.below xb);have HME:=Lib.hid (fun j (hj:j < k)=>(hmem j hj).below xb);have HBK:=Lib.hid (hblk.ext xb);have HOF:=Lib.hid (hoff.ext xb (by omega))
          have hs5:(wr.alloc (.cells #[.string nm,.int .i64 ch,.slice A3 ml.length cap3] 97)).heap.size = wr.heap.size + 1:=by simp
          have hwB:B3 <= wr.heap.size:=by have:=hoff.2.1; omega
          have hkI:(k:Int) < t.gates.length:=by omega
          clear hown hmem hblk hoff hcc hM hnm hch hml xb hMr hbel
          go_light
          go_wp2;obtain ⟨W5,hW5⟩:∃ X,wr.alloc (.cells #[.string nm,.int .i64 ch,.slice A3 ml.length cap3] 97) = X:=⟨_,rfl⟩;rw [hW5] at HM HOW HME HBK HOF kb hs5 ⊢;have KB:=Lib.hid kb;have hdr:=(Ext.refl W5).drew;clear hW5 kb e0 e1 e2;refine Flow.Q3x [.p,.w,.p,.w,.p,.w,.p,.w,.w,.p,.w,.last,.last,.last] [0,1,2,3,4,5,6,7,8,9,10,11,12,13] [[],[0],[],[2],[],[4],[],[6],[6,7],[2,3,4,5,6,7,8],[2,3,4,5,6,7,8,9],[0,1,2,3,4,5,6,7,8,9,10],[0,1,2,3,4,5,6,7,8,9,10,11],[0,1,2,3,4,5,6,7,8,9,10,11,12]] [11,12,13]
           [.c 0 (.pointer (some ⟨O,2,none⟩)),.c 1 (xv),.c 2 (.pointer (some ⟨wr.heap.size,0,none⟩)),.c 3 (.string nm),.c 4 (.pointer (some ⟨wr.heap.size,1,none⟩)),.c 5 (.int .i64 ch),.c 6 (.pointer (some ⟨wr.heap.size,2,none⟩)),.c 7 (.slice A3 ml.length cap3),⟨fun v wz=>(fun v w'=>Q0s w' 0 3 (.int .i64) (v 8) ml) v wz,fun _ _ _ hx h=>Q0s.below h hx⟩,⟨fun v wz=>(fun v w'=>v 9 = .agg #[.string nm,.int .i64 ch,v 8]) v wz,by intro _ _ _ _ h; exact h⟩,⟨fun v wz=>(fun v w'=>∃ g,v 10 = .slice (some ⟨g,0,none⟩) 1 1 /\ Blk w' g 114 (enc3 (nm,ch,v 8)).toArray) v wz,by rintro v a b hx ⟨g,h1,h2⟩; exact ⟨g,h1,h2.ext hx⟩⟩,.none,.none,.none]
           [fun v w1 w'=>Q1o w' B3 114 3 enc3 (v 11) ((List.range k).map (gF t mg) ++ [(nm,ch,v 8)]) /\ w1.grownBy w' xv.ownBlock,fun v w1 w'=>v 12 = .pointer (some ⟨O,2,none⟩) /\ Q1o w' B3 114 3 enc3 (v 11) ((List.range k).map (gF t mg) ++ [(nm,ch,v 8)]) /\ w1.grownBy w' xv.ownBlock,fun v w1 w'=>∃ x wm,Q1o wm B3 114 3 enc3 x ((List.range k).map (gF t mg) ++ [(nm,ch,v 8)]) /\ w1.grownBy wm xv.ownBlock /\ w' = wm.setCell ⟨O,2,none⟩ x] (by kernel_rfl) rfl (by kernel_rfl) ⟨?g0,?g1,?g2,?g3,?g4,?g5,?g6,?g7,?g8,?g9,?g10,?g11,?g12,?g13,trivial⟩ ?post
          case g0 | g2 | g4 | g6=>
           intro v w1 hx;intro bb hbb;subst hbb;refine ⟨_,fun w=>?_,rfl⟩;go_simp
          case g1 | g3 | g5 | g7=>
           intro v w1 hx;(repeat intro (zq:v _ = _));intro bb hbb;subst hbb;have n0:w1.cell? ⟨O,2,none⟩ = some xv:=(HBK.out.ext (hdr.trans hx)).cell 2;have n1:w1.cell? ⟨wr.heap.size,0,none⟩ = some (.string nm):=(KB.out.ext (hdr.trans hx)).cell 0;have n2:w1.cell? ⟨wr.heap.size,1,none⟩ = some (.int .i64 ch):=(KB.out.ext (hdr.trans hx)).cell 1;have n3:w1.cell? ⟨wr.heap.size,2,none⟩ = some (.slice A3 ml.length cap3):=(KB.out.ext (hdr.trans hx)).cell 2;intro K hK;go_simp;exact hK _ _ (Ext.refl _) rfl
          case g8=>
           intro v w1 hx;(repeat intro (zq:v _ = _));intro bb hbb;subst hbb;intro K hK;go_simp;refine Q0d (Y2k w1 _ _ (HM.out.ext (hdr.trans hx)) (by have:=HLE.out; omega)) ?_
           rintro e w2 ⟨u,rfl,hown,hx2⟩;exact ⟨_,rfl,hK _ _ hx2 (Q0s.weaken hown (Nat.zero_le _))⟩
          case g9=>
           intro v w1 hx (q2:v 2 = _) (q3:v 3 = _) (q4:v 4 = _) (q5:v 5 = _) (q6:v 6 = _) (q7:v 7 = _) (q8:(fun v w'=>Q0s w' 0 3 (.int .i64) (v 8) ml) v w1);intro bb hbb;obtain ⟨s9,c9,e9,_⟩:=Q0s.shape q8;have o1:bb.eval (.tmp 55) = .string nm:=by rw [hbb]; dsimp only; (try simp (discharger:=decide) only [eval_put_ne]); rw [Q0a (by simp only [size_put]; exact (by decide:55 < 67))]; exact q3
           have o2:bb.eval (.tmp 57) = .int .i64 ch:=by rw [hbb]; dsimp only; (try simp (discharger:=decide) only [eval_put_ne]); rw [Q0a (by simp only [size_put]; exact (by decide:57 < 67))]; exact q5
           have o3:bb.eval (.tmp 60) = v 8:=by rw [hbb]; dsimp only; (try simp (discharger:=decide) only [eval_put_ne]); rw [Q0a (by simp only [size_put]; exact (by decide:60 < 67))]
           rw [e9] at o3;exact ⟨_,fun w=>Q4j _ (.tmp 55) (.tmp 57) (.tmp 60) rfl o1 o2 o3 (fun w=>Q7q w _ _ _ _ _),by show Value.agg #[.string nm,.int .i64 ch,.slice s9 ml.length c9] = Value.agg #[.string nm,.int .i64 ch,v 8]; rw [e9]⟩
          case g10=>
           intro v w1 hx (q2:v 2 = _) (q3:v 3 = _) (q4:v 4 = _) (q5:v 5 = _) (q6:v 6 = _) (q7:v 7 = _) (q8:(fun v w'=>Q0s w' 0 3 (.int .i64) (v 8) ml) v w1) (q9:(fun v w'=>v 9 = .agg #[.string nm,.int .i64 ch,v 8]) v w1);intro bb hbb;intro K hK;obtain ⟨s9,c9,e9,_⟩:=Q0s.shape q8;have o1:bb.eval (.tmp 61) = .agg #[.string nm,.int .i64 ch,v 8]:=by rw [hbb]; dsimp only; (try simp (discharger:=decide) only [eval_put_ne]); rw [Q0a (by simp only [size_put]; exact (by decide:61 < 67))]; exact q9
           rw [e9] at o1;have hbl:Blk (w1.alloc (.cells (Value.agg #[.string nm,.int .i64 ch,.slice s9 ml.length c9]).cells 114)) w1.heap.size 114 (enc3 (nm,ch,v 8)).toArray:=by rw [e9]; exact Blk.made _ _ _
           exact Q2y 31 114 (.tmp 61) rfl o1 (X5c w1 _ _ _ _ _) (hK _ _ (Ext.box _ _) ⟨_,rfl,hbl⟩)
          case g11=>
           intro v w1 hx (q0:v 0 = _) (q1:v 1 = _) (q2:v 2 = _) (q3:v 3 = _) (q4:v 4 = _) (q5:v 5 = _) (q6:v 6 = _) (q7:v 7 = _) (q8:(fun v w'=>Q0s w' 0 3 (.int .i64) (v 8) ml) v w1) _ (q10:(fun v w'=>∃ g,v 10 = .slice (some ⟨g,0,none⟩) 1 1 /\ Blk w' g 114 (enc3 (nm,ch,v 8)).toArray) v w1);intro wl hT;obtain rfl:wl = w1:=hT;intro bb hbb;intro K hK;obtain ⟨s9,c9,e9,_⟩:=Q0s.shape q8;obtain ⟨g,hg10,hb10⟩:=q10;have o1:bb.eval (.tmp 53) = xv:=by rw [hbb]; dsimp only; (try simp (discharger:=decide) only [eval_put_ne]); rw [Q0a (by simp only [size_put]; exact (by decide:53 < 67))]; exact q1
           have o2:bb.eval (.tmp 62) = .slice (some ⟨g,0,none⟩) 1 1:=by rw [hbb]; dsimp only; (try simp (discharger:=decide) only [eval_put_ne]); rw [Q0a (by simp only [size_put]; exact (by decide:62 < 67))]; exact hg10
           have hxx:=hdr.trans hx;exact X1k _ _ 31 rfl B3 114 l0 (.agg #[.string emp,.int .i64 0,.slice none 0 0]) 3 48 Tryz.underlying31 li lz0 lz1 lz2 rfl (by decide) enc3 Q0u xv _ (nm,ch,v 8) o1 (HOW.out.below hxx) ⟨g,0,none⟩ 1 o2 (Q4s hb10) (by rw [e9]; exact Q9r) (by simp; omega) (by decide) (by have:=hxx.size; omega) (fun v' w' h1 h2=>hK _ _ ⟨h1,h2⟩)
          case g12=>
           intro v w1 hx (q0:v 0 = _) (q1:v 1 = _) (q2:v 2 = _) (q3:v 3 = _) (q4:v 4 = _) (q5:v 5 = _) (q6:v 6 = _) (q7:v 7 = _) _ _ _;intro wl hT;replace hT:(fun v w1 w'=>Q1o w' B3 114 3 enc3 (v 11) ((List.range k).map (gF t mg) ++ [(nm,ch,v 8)]) /\ w1.grownBy w' xv.ownBlock) v w1 wl:=hT;intro bb hbb;subst hbb;intro K hK;go_simp;exact hK _ _ ⟨rfl,hT⟩
          case g13=>
           intro v w1 hx (q0:v 0 = _) (q1:v 1 = _) (q2:v 2 = _) (q3:v 3 = _) (q4:v 4 = _) (q5:v 5 = _) (q6:v 6 = _) (q7:v 7 = _) _ _ _;intro wl hT;replace hT:(fun v w1 w'=>v 12 = .pointer (some ⟨O,2,none⟩) /\ Q1o w' B3 114 3 enc3 (v 11) ((List.range k).map (gF t mg) ++ [(nm,ch,v 8)]) /\ w1.grownBy w' xv.ownBlock) v w1 wl:=hT;intro bb hbb;intro K hK;obtain ⟨hT0,hT1,hT2⟩:=hT;have hxx:=hdr.trans hx;obtain ⟨bp,cp,hsh,_⟩:=hT1.shape;have o1:bb.eval (.tmp 64) = .pointer (some ⟨O,2,none⟩):=by rw [hbb]; dsimp only; (try simp (discharger:=decide) only [eval_put_ne]); rw [Q0a (by simp only [size_put]; exact (by decide:64 < 67))]; exact hT0
           have o2:bb.eval (.tmp 63) = v 11:=by rw [hbb]; dsimp only; (try simp (discharger:=decide) only [eval_put_ne]); rw [Q0a (by simp only [size_put]; exact (by decide:63 < 67))]
           have hbl:=Q4z (HBK.out.ext hxx) (HOW.out.below hxx) hB3O hT2;exact Q2l _ _ rfl Tryz.X8l (g:=O) (k:=2) o1 o2 (by rw [hsh]; rfl) (by rw [hsh]; rfl) hbl (by show 2 < 3; omega) (fun v'=>hK _ _ ⟨v 11,wl,hT1,hT2,rfl⟩)
          case post =>
           intro v w1 hx;(iterate 8 intro (zq:v _ = _));intro (q8:(fun v w'=>Q0s w' 0 3 (.int .i64) (v 8) ml) v w1) (q9:(fun v w'=>v 9 = .agg #[.string nm,.int .i64 ch,v 8]) v w1) (q10:(fun v w'=>∃ g,v 10 = .slice (some ⟨g,0,none⟩) 1 1 /\ Blk w' g 114 (enc3 (nm,ch,v 8)).toArray) v w1);intro w2 hE;replace hE:(fun v w1 w'=>∃ x wm,Q1o wm B3 114 3 enc3 x ((List.range k).map (gF t mg) ++ [(nm,ch,v 8)]) /\ w1.grownBy wm xv.ownBlock /\ w' = wm.setCell ⟨O,2,none⟩ x) v w1 w2:=hE;simp only [Flow.acts,Act.put];go_simp;obtain ⟨x,wm,hom,hgm,rfl⟩:=hE;have hxx:=hdr.trans hx;have hbm:=Q4z (HBK.out.ext hxx) (HOW.out.below hxx) hB3O hgm;have hof:=((HOF.out.ext hxx (by omega)).grown (HOW.out.below hxx) (by omega) (by have:=hB3; omega) hgm).set 2 x
           have HO6:=Lib.hid (hom.setCell (p:=⟨O,2,none⟩) hB3O x);have HB6:=Lib.hid (hbm.set 2 x);have HOF6:=Lib.hid hof;have HME6:Hid (∀ j,j < k + 1 -> Q0s (wm.setCell ⟨O,2,none⟩ x) 0 3 (.int .i64) (if j = k then v 8 else mg j) (Q0m t.gates j)):=Lib.hid (fun j hj=>by
            by_cases hjk:j = k
            . subst hjk
              rw [if_pos rfl,HML.out];exact X1c (Q8h q8 (HOW.out.below hxx) (by decide) hgm) hbm (by decide)
            . rw [if_neg hjk]
              exact X1c (Q8h ((HME.out j (by omega)).below hxx) (HOW.out.below hxx) (by decide) hgm) hbm (by decide))
           rw [Z5i HNM.out HCH.out] at HO6;obtain ⟨w6,hw6⟩:∃ y,wm.setCell ⟨O,2,none⟩ x = y:=⟨_,rfl⟩;rw [hw6] at HO6 HB6 HOF6 HME6 ⊢;clear hw6 hom hgm hxx hx hbm hof q8 q9 q10;(repeat clear zq);go_wp2;go_roundw
           case rel=>exact ⟨k + 1,x,fun j=>if j = k then v 8 else mg j,by omega,by go_num,HO6.out,HME6.out,HB6.out,HOF6.out⟩
           case measure=>simp [intOf]; omega
        . have hkn:k = t.gates.length:=by omega
          subst hkn;have hwB:=hblk;have HOUT:=Lib.hid hblk;have HBVF:=Lib.hid (HBV2.out.off (by omega) hoff)
          have HCVF:=Lib.hid (HCV.out.off (by omega) hoff)
          have HMCF:Hid (∀ j,j < t.causes.length -> Q0s wr 0 3 (.int .i64) (mc j) (Q0f t.causes j)):=Lib.hid (fun j hj=>Y9n (HMC.out j hj) HBT.out (by decide) hoff)
          have HGV:=Lib.hid hown;have HMG:=Lib.hid hmem;have hR:=R0.out.below hbel (by omega)
          have HBF:=Lib.hid hbel;clear hown hmem hoff HOFF hwB;go_wp2_with (first | (refine Q0i rfl _ _ rfl Tryz.Q2n Tryz.Q0v rfl HOUT.out rfl ?_) | (refine Q0c rfl _ _ 33 rfl Tryz.Q0v rfl rfl hR rfl rfl ?_ ?_; (focus (exact X1u HBVF.out HCVF.out HGV.out)); intro w9 hb9 hl9 ho9))
          refine bodyPost_ret (Q4u Tryz.results10 rfl hb9 Tryz.Q2n Tryz.Q0v) rfl ?_;refine ⟨_,rfl,⟨_,_,_,rfl,⟨?_,?_,?_⟩⟩,Below.trans (Below.trans HXW.out (HBF.out.mono (B':=w.heap.size) (by omega))) (hl9 _ (by omega))⟩
          . exact Y6x (HBVF.out.only (g:=w.heap.size + 1) (by omega) ho9) HT0.out.basics
          . exact Y6u (HCVF.out.only (g:=w.heap.size + 1) (by omega) ho9) HT0.out.causes fun i hi=>X8o (HMCF.out i hi) hR (by decide) ho9
          . exact Y9c (HGV.out.only (g:=w.heap.size + 1) (by omega) ho9) HT0.out.gates fun i hi=>X8o (HMG.out i hi) hR (by decide) ho9
end Go.Proofs
