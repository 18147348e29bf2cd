/- Contract of the law's own function: told. -/
import Derived.Test.YtmaejccjimkbiaaGreatDoorFx43
set_option linter.unusedVariables false
set_option linter.unusedSimpArgs false
set_option linter.constructorNameAsVariable false
namespace Go.Proofs
open Go.RowKit Go.Tw Go.Flow
theorem Tryz.Z2r:(Tryz.prog.info? 80).map (fun i=>(i.zero,i.size,i.bytes)) = some (some (.agg #[.string emp,.int .i64 0]),2,24):=by kernel_rfl
theorem Tryz.Y8d:(Tryz.prog.info? 82).map (fun i=>(i.zero,i.size,i.bytes)) = some (some (.agg #[.string emp,.int .i64 0,.slice none 0 0]),3,48):=by kernel_rfl
theorem Tryz.Z2v:(Tryz.prog.info? 128).map (fun i=>(i.zero,i.size,i.bytes)) = some (some (.agg #[.string emp,.int .i64 0,.slice none 0 0]),3,48):=by kernel_rfl
theorem Tryz.Y2q (w:World):(sizeOf 22).run Tryz.prog w = .ok 1 w:=by kernel_rfl
theorem Tryz.X0s (w:World):(sizeOf 23).run Tryz.prog w = .ok 1 w:=by kernel_rfl
theorem Tryz.X6m (w:World):(sizeOf 24).run Tryz.prog w = .ok 1 w:=by kernel_rfl
theorem Q8p {w w':World} {base:Nat} {v a:Value} {t:Tree} (h:Q1z w base 80 2 X3j v t.basics) (hs:Q3k w' a t.basics):Q3k w v t.basics:=by
 obtain ⟨_,_,_,hl,_⟩:=hs.opened;refine h.rows hl Q6i (fun x hx=>?_) (fun c c' x hc h=>?_)
 · obtain ⟨k,hk,rfl⟩:=List.getElem_of_mem hx
   have:=hs.short hk;unfold bName at this;rw [getD_at hk] at this;exact ⟨rfl,rfl,this⟩
 · obtain ⟨h1,h2,h3⟩:=h
   exact ⟨by rw [← hc 0 (by omega)]; exact h1,by rw [← hc 1 (by omega)]; exact h2,h3⟩
theorem Q8l {w w':World} {T:TypeId} {base:Nat} {v a:Value} {t:Tree} {mc:Nat → Value} (h:Q1z w base T 3 enc3 v ((List.range t.causes.length).map (cF t mc))) (hs:Q3w w' a t.causes) (hm:∀ i,i < t.causes.length → Q0f w (mc i) (Q0c t.causes i)):Q3w w v t.causes:=by
 obtain ⟨_,_,_,hl,_⟩:=hs.opened;refine h.rowsOf (by simp) hl Q0s (fun j h1 h2=>?_) (fun c c' x hc h=>?_)
 · have hsh:=hs.short h2
   have hmm:=hm j h2;have e:t.causes.getD j default = t.causes[j]:=getD_at h2;simp only [List.getElem_map,List.getElem_range];refine ⟨?_,?_,?_,?_⟩
   · show Value.string (cName t.causes j) = _; unfold cName; rw [e]
   · show Value.int .i64 (Q1d t.causes j) = _; unfold Q1d; rw [e]
   · show Q0f w (mc j) _; unfold Q0c at hmm; rw [e] at hmm; exact hmm
   · have:=hsh.1; unfold cName at this; rw [e] at this; exact this
 · obtain ⟨h1,h2,h3,h4⟩:=h
   exact ⟨by rw [← hc 0 (by omega)]; exact h1,by rw [← hc 1 (by omega)]; exact h2,by rw [← hc 2 (by omega)]; exact h3,h4⟩
theorem Q8c {w w':World} {T:TypeId} {base:Nat} {v a:Value} {t:Tree} {mg:Nat → Value} (h:Q1z w base T 3 enc3 v ((List.range t.gates.length).map (gF t mg))) (hs:Q4m w' a t.gates) (hm:∀ i,i < t.gates.length → Q0f w (mg i) (Q0l t.gates i)):Q4m w v t.gates:=by
 obtain ⟨_,_,_,hl,_⟩:=hs.opened;refine h.rowsOf (by simp) hl Q0s (fun j h1 h2=>?_) (fun c c' x hc h=>?_)
 · have hsh:=hs.short h2
   have hmm:=hm j h2;have e:t.gates.getD j default = t.gates[j]:=getD_at h2;simp only [List.getElem_map,List.getElem_range];refine ⟨?_,?_,?_,?_⟩
   · show Value.string (Q2c t.gates j) = _; unfold Q2c; rw [e]
   · show Value.int .i64 (Q2x t.gates j) = _; unfold Q2x; rw [e]
   · show Q0f w (mg j) _; unfold Q0l at hmm; rw [e] at hmm; exact hmm
   · have:=hsh.1; unfold Q2c at this; rw [e] at this; exact this
 · obtain ⟨h1,h2,h3,h4⟩:=h
   exact ⟨by rw [← hc 0 (by omega)]; exact h1,by rw [← hc 1 (by omega)]; exact h2,by rw [← hc 2 (by omega)]; exact h3,h4⟩
theorem X8g {O:Nat} {a b c:World} (h:Off O a b) (hl:∀ n,n ≤ O → Below n b c) (ho:∀ k,k ≠ O → c.heap[k]? = b.heap[k]?):Off O a c :=
 ⟨h.1.trans (hl O (Nat.le_refl _)),Nat.le_trans h.2.1 (hl 0 (Nat.zero_le _)).size,fun k hk hne=>(ho k hne).trans (h.2.2 k hk hne)⟩
set_option maxRecDepth 100000 in
set_option maxHeartbeats 4000000 in
theorem Y3y (w:World) (v:Value) (t:Tree) (ht:IsTree w v t) (hnb:t.basics.length ≤ 1000) (hnc:t.causes.length ≤ 1000) (hng:t.gates.length ≤ 1000) :
    Calls Tryz.prog 28 #[v] w fun e w'=>∃ u,e = .returned u ∧ IsTree w' u t ∧ Ext w w':=by
 obtain ⟨i0,hi,hz0,hz1,hz2⟩:=info_parts Tryz.Z2r;obtain ⟨j0,ji,jz0,jz1,jz2⟩:=info_parts Tryz.Y8d;obtain ⟨l0,li,lz0,lz1,lz2⟩:=info_parts Tryz.Z2v;obtain ⟨a,b,c,rfl,h3⟩:=ht;obtain ⟨A,capa,rfl,hl1,hcap1,_⟩:=h3.basics.opened;obtain ⟨B,capb,rfl,hl2,hcap2,_⟩:=h3.causes.opened;obtain ⟨G,capg,rfl,hl3,hcap3,_⟩:=h3.gates.opened;have HT0:=Lib.hid h3;clear h3;go_enter Tryz.func28,Tryz.ntmps28;go_wp2_with fail;change Code.wp _ _ _ _ (((w.alloc (.cells #[.slice A t.basics.length capa,.slice B t.causes.length capb,.slice G t.gates.length capg] 37)).alloc (.cells #[.slice none 0 0,.slice none 0 0,.slice none 0 0] 26)).alloc (.cells #[.slice none 0 0,.slice none 0 0,.slice none 0 0] 26));have k0:=Blk.made w 37 #[.slice A t.basics.length capa,.slice B t.causes.length capb,.slice G t.gates.length capg];have x0:=Ext.box w (.cells #[.slice A t.basics.length capa,.slice B t.causes.length capb,.slice G t.gates.length capg] 37);have es0:(w.alloc (.cells #[.slice A t.basics.length capa,.slice B t.causes.length capb,.slice G t.gates.length capg] 37)).heap.size = w.heap.size + 1:=by simp
 obtain ⟨X0,hX0⟩:∃ X,w.alloc (.cells #[.slice A t.basics.length capa,.slice B t.causes.length capb,.slice G t.gates.length capg] 37) = X:=⟨_,rfl⟩;rw [hX0] at k0 x0 es0 ⊢;clear hX0;have k1:=Blk.made X0 26 #[.slice none 0 0,.slice none 0 0,.slice none 0 0];have x1:=Ext.box X0 (.cells #[.slice none 0 0,.slice none 0 0,.slice none 0 0] 26);have es1:(X0.alloc (.cells #[.slice none 0 0,.slice none 0 0,.slice none 0 0] 26)).heap.size = X0.heap.size + 1:=by simp
 obtain ⟨X1,hX1⟩:∃ X,X0.alloc (.cells #[.slice none 0 0,.slice none 0 0,.slice none 0 0] 26) = X:=⟨_,rfl⟩;rw [hX1] at k1 x1 es1 ⊢;clear hX1;have k2:=Blk.made X1 26 #[.slice none 0 0,.slice none 0 0,.slice none 0 0];have x2:=Ext.box X1 (.cells #[.slice none 0 0,.slice none 0 0,.slice none 0 0] 26);have es2:(X1.alloc (.cells #[.slice none 0 0,.slice none 0 0,.slice none 0 0] 26)).heap.size = X1.heap.size + 1:=by simp
 obtain ⟨X2,hX2⟩:∃ X,X1.alloc (.cells #[.slice none 0 0,.slice none 0 0,.slice none 0 0] 26) = X:=⟨_,rfl⟩;rw [hX2] at k2 x2 es2 ⊢;clear hX2;replace k0:=(k0.ext x1).ext x2;replace k1:=k1.ext x2;have e0:X0.heap.size = w.heap.size + 1:=by omega
 have e1:X1.heap.size = w.heap.size + 1 + 1:=by omega
 have e2:X2.heap.size = w.heap.size + 1 + 1 + 1:=by omega
 rw [e0] at k1;rw [e1] at k2;have HXW:Hid (Ext w X2):=by exact (Ext.trans (Ext.trans (x0) x1) x2:Ext w X2)
 have eW:X2.heap.size = w.heap.size + 1 + 1 + 1:=e2;clear x0 es0 e0 x1 es1 e1 x2 es2 e2;obtain ⟨W,hWW⟩:∃ W,X2 = W:=⟨_,rfl⟩;rw [hWW] at HXW eW ⊢ k0 k1 k2;clear hWW;have HT:=Lib.hid (HT0.out.ext HXW.out);have K0:=Lib.hid k0;have R0:=Lib.hid k1;have O0:=Lib.hid k2;obtain ⟨O,hO⟩:∃ O,w.heap.size + 1 + 1 = O:=⟨_,rfl⟩;rw [hO] at O0 eW ⊢;have hwO:w.heap.size + 1 + 1 = O:=hO;clear k0 k1 k2 hO;go_wp2
 go_loopw [13] (fun i wr=>∃ (k:Nat) (xv:Value),k ≤ t.basics.length ∧ i = .int .i64 k ∧ Q1z wr (O + 1) 80 2 X3j xv (t.basics.take k) ∧ Blk wr O 26 #[xv,.slice none 0 0,.slice none 0 0] ∧ Off O W wr) (fun i _=>t.basics.length - (intOf i).toNat)
 case atStart=>exact ⟨0,_,Nat.zero_le _,rfl,Q1z.nil _ _ _ _ _,O0.out,Off.refl _ _⟩
 case round =>
  obtain ⟨k,xv,hk,rfl,hown,hblk,hoff⟩:=hrel;have HOFF:=Lib.hid hoff;have hwrs:O + 1 ≤ wr.heap.size:=hblk.lt;have hbel:Below O W wr:=hoff.1
  by_cases hlt:k < t.basics.length
  · obtain ⟨_,_,he0,_,_,hcc⟩:=HT0.out.basics.opened
    cases he0;obtain ⟨b1,off,rfl,hb1,e0,e1,_⟩:=hcc k hlt;have hb1':b1 < O:=by omega
    replace e0:=(hbel.cell (p:=⟨b1,off + k * 2,none⟩) hb1').trans (HXW.out.cell e0);replace e1:=(hbel.cell (p:=⟨b1,off + k * 2 + 1,none⟩) hb1').trans (HXW.out.cell e1);obtain ⟨nm,hnm⟩:∃ x,bName t.basics k = x:=⟨_,rfl⟩;obtain ⟨ch,hch⟩:∃ x,Q1l t.basics k = x:=⟨_,rfl⟩;rw [hnm] at e0;rw [hch] at e1;have HNM:=Lib.hid hnm;have HCH:=Lib.hid hch;have hlen:(t.basics.take k).length = k:=by simp; omega
    obtain ⟨tk,htk⟩:∃ x,t.basics.take k = x:=⟨_,rfl⟩;rw [htk] at hown hlen;have HTKK:=Lib.hid htk;have xb:=Ext.box wr (.cells #[.string nm,.int .i64 ch] 125);have kb:=Blk.made wr 125 #[.string nm,.int .i64 ch];have hown2:=hown.below xb;have hblk2:=hblk.ext xb;have c0:=hblk2.cell 0;have hkI:(k:Int) < t.basics.length:=by omega
    have hs2:(wr.alloc (.cells #[.string nm,.int .i64 ch] 125)).heap.size = wr.heap.size + 1:=by simp
    simp only [List.getElem?_toArray,List.getElem?_cons_zero,List.getElem?_cons_succ] at c0;have x3:=Ext.box (wr.alloc (.cells #[.string nm,.int .i64 ch] 125)) (.cells #[.string nm,.int .i64 ch] 80);have kb3:=Blk.made (wr.alloc (.cells #[.string nm,.int .i64 ch] 125)) 80 #[.string nm,.int .i64 ch];rw [hs2] at kb3;have hs3:O + 1 ≤ ((wr.alloc (.cells #[.string nm,.int .i64 ch] 125)).alloc (.cells #[.string nm,.int .i64 ch] 80)).heap.size:=by simp; omega
    obtain ⟨A9,c9,hbv,_⟩:=hown2.shape;rw [hlen] at hbv;have hown3:=hown2.below x3;unfold Q1z at hown3;rw [hlen] at hown3;have HB3X:=Lib.hid (hblk2.ext x3);have HKB:=Lib.hid kb3;have HOW:=Lib.hid hown3;have HS3:=Lib.hid hs3;have HXB:=Lib.hid (xb.trans x3);have HOF:=Lib.hid ((hoff.ext xb (by omega)).ext x3 (by rw [hs2]; omega))
    clear hcc hown hblk hnm hch htk hbel hown2 hblk2 kb3 hown3 hs3 xb x3 hs2 kb hoff;subst hbv;go_wp2_with (first | (at_builtin; go_must (refine wpList_append_own _ rfl _ _ 22 rfl (O + 1) 80 i0 (.agg #[.string emp,.int .i64 0]) 2 24 Tryz.underlying22 hi hz0 hz1 hz2 rfl (by decide) _ _ _ rfl HOW.out ⟨wr.heap.size + 1,0,none⟩ 1 1 [.string nm,.int .i64 ch] rfl rfl (Q7n HKB.out) ?_ ?_ ?_ HS3.out ?_; (focus (intro u hu; simp only [List.mem_cons,List.not_mem_nil,or_false] at hu; rcases hu with rfl | rfl <;> rfl)); (focus (unfold maxLen; omega)); (focus omega); intro v' w1 hown' hgrow _; refine halted ?_)))
    have HB4:=Lib.hid (Q3l HB3X.out HOW.out (by omega) hgrow)
    have HO4:Hid (Q1z w1 (O + 1) 80 2 X3j v' (t.basics.take (k + 1))):=by exact (by
     have h:=Q1z.snoc (enc:=X3j) (x:=(⟨nm,ch⟩:Basic)) (l:=tk) (by rw [hlen]; exact hown')
     have e:t.basics.take (k + 1) = tk ++ [⟨nm,ch⟩]:=by rw [← HTKK.out,← HNM.out,← HCH.out]; exact X9g hlt
     rw [e]; exact h:Q1z w1 (O + 1) 80 2 X3j v' (t.basics.take (k + 1)))
    have HOF4:=Lib.hid (HOF.out.grown HOW.out (by omega) (by omega) hgrow)
    have hsh:∃ A c,v' = .slice A (k + 1) c:=by
     obtain ⟨A,c,h,_⟩:=HO4.out.shape;exact ⟨A,c,by rw [h]; congr 1; simp; omega⟩
    obtain ⟨A8,c8,hv'⟩:=hsh;rw [hv'] at HO4 ⊢;clear hown' hgrow hv' c0 e0 e1;unfold Q3f;go_wp2_with (refine Q1b rfl _ _ 22 rfl Tryz.Y2q (g:=O) (k:=0) (u:=.slice A8 (k + 1) c8) rfl rfl rfl rfl HB4.out (by show 0 < 3; omega) ?_; intro w5 hb5 hl5 ho5; refine halted ?_)
    have HB5:=Lib.hid hb5;have HO5:=Lib.hid (HO4.out.only (by omega) ho5)
    have HOF5:=Lib.hid (X8g HOF4.out hl5 ho5);clear hb5 hl5 ho5;unfold Q3f;go_wp2;go_roundw
    case rel=>exact ⟨k + 1,_,by omega,by go_num,HO5.out,HB5.out,HOF5.out⟩
    case measure=>simp [intOf]; omega
  · have hkn:k = t.basics.length:=by omega
    subst hkn;rw [List.take_length] at hown;have HBV:=Lib.hid hown;have HB1:=Lib.hid hblk;have HBE1:=Lib.hid hbel;have kt:=K0.out.below hbel (by omega)
    have c1:=kt.cell 1;simp only [List.getElem?_toArray,List.getElem?_cons_zero,List.getElem?_cons_succ] at c1;obtain ⟨W1,hW1⟩:∃ X,wr = X:=⟨_,rfl⟩;obtain ⟨bv,hbv⟩:∃ x,xv = x:=⟨_,rfl⟩;rw [hW1] at HBV HB1 HBE1 c1 hwrs ⊢;rw [hbv] at HBV HB1;clear hown hblk hbel hoff HOFF hW1 hbv kt;go_wp2;clear c1;obtain ⟨B2,hB2⟩:∃ B,W1.heap.size = B:=⟨_,rfl⟩;have hB2O:O < B2:=by omega
    go_loopw [27] (fun i wr=>∃ (k:Nat) (xv:Value) (mc:Nat → Value),k ≤ t.causes.length ∧ i = .int .i64 k ∧ Q1z wr B2 82 3 enc3 xv ((List.range k).map (cF t mc)) ∧ (∀ j,j < k → Q0f w (mc j) (Q0c t.causes j)) ∧ Blk wr O 26 #[bv,xv,.slice none 0 0] ∧ Off O W1 wr) (fun i _=>t.causes.length - (intOf i).toNat)
    case atStart=>exact ⟨0,_,fun _=>undef,Nat.zero_le _,rfl,Q1z.nil _ _ _ _ _,fun j hj=>by omega,HB1.out,Off.refl _ _⟩
    case round =>
     obtain ⟨k,xv,mc,hk,rfl,hown,hmem,hblk,hoff⟩:=hrel;have HOFF:=Lib.hid hoff;have hwrs:O + 1 ≤ wr.heap.size:=hblk.lt;have hbel:Below O W wr:=HBE1.out.trans hoff.1;have HMEM:=Lib.hid hmem
     by_cases hlt:k < t.causes.length
     · obtain ⟨_,_,he0,_,_,hcc⟩:=HT0.out.causes.opened
       cases he0;obtain ⟨b1,off,mvv,rfl,hb1,e0,e1,e2,hM,_⟩:=hcc k hlt;have hb1':b1 < O:=by omega
       replace e0:=(hbel.cell (p:=⟨b1,off + k * 3,none⟩) hb1').trans (HXW.out.cell e0);replace e1:=(hbel.cell (p:=⟨b1,off + k * 3 + 1,none⟩) hb1').trans (HXW.out.cell e1);replace e2:=(hbel.cell (p:=⟨b1,off + k * 3 + 2,none⟩) hb1').trans (HXW.out.cell e2);obtain ⟨A3,cap3,rfl,_,_,_⟩:=hM.opened;have HM:=Lib.hid hM;obtain ⟨nm,hnm⟩:∃ x,cName t.causes k = x:=⟨_,rfl⟩;obtain ⟨ch,hch⟩:∃ x,Q1d t.causes k = x:=⟨_,rfl⟩;rw [hnm] at e0;rw [hch] at e1;have HNM:=Lib.hid hnm;have HCH:=Lib.hid hch;obtain ⟨n3,hn3⟩:∃ n,(Q0c t.causes k).length = n:=⟨_,rfl⟩;rw [hn3] at e2 HM;have hlen:((List.range k).map (cF t mc)).length = k:=by simp
       obtain ⟨tk,htk⟩:∃ x,(List.range k).map (cF t mc) = x:=⟨_,rfl⟩;rw [htk] at hown hlen;have HTKK:=Lib.hid htk;have xb:=Ext.box wr (.cells #[.string nm,.int .i64 ch,.slice A3 n3 cap3] 126);have kb:=Blk.made wr 126 #[.string nm,.int .i64 ch,.slice A3 n3 cap3];have hown2:=hown.below xb;have hblk2:=hblk.ext xb;have c0:=hblk2.cell 1;have hkI:(k:Int) < t.causes.length:=by omega
       have hs2:(wr.alloc (.cells #[.string nm,.int .i64 ch,.slice A3 n3 cap3] 126)).heap.size = wr.heap.size + 1:=by simp
       simp only [List.getElem?_toArray,List.getElem?_cons_zero,List.getElem?_cons_succ] at c0;have x3:=Ext.box (wr.alloc (.cells #[.string nm,.int .i64 ch,.slice A3 n3 cap3] 126)) (.cells #[.string nm,.int .i64 ch,.slice A3 n3 cap3] 82);have kb3:=Blk.made (wr.alloc (.cells #[.string nm,.int .i64 ch,.slice A3 n3 cap3] 126)) 82 #[.string nm,.int .i64 ch,.slice A3 n3 cap3];rw [hs2] at kb3;have hbs:B2 ≤ wr.heap.size:=by have:=hoff.2.1; omega
       have hs3:B2 ≤ ((wr.alloc (.cells #[.string nm,.int .i64 ch,.slice A3 n3 cap3] 126)).alloc (.cells #[.string nm,.int .i64 ch,.slice A3 n3 cap3] 82)).heap.size:=by simp; omega
       obtain ⟨A9,c9,hbv,_⟩:=hown2.shape;rw [hlen] at hbv;have hown3:=hown2.below x3;unfold Q1z at hown3;rw [hlen] at hown3;have HB3X:=Lib.hid (hblk2.ext x3);have HKB:=Lib.hid kb3;have HOW:=Lib.hid hown3;have HS3:=Lib.hid hs3;have HXB:=Lib.hid (xb.trans x3);have HOF:=Lib.hid ((hoff.ext xb (by omega)).ext x3 (by rw [hs2]; omega))
       clear hcc hown hblk hnm hch htk hbel hown2 hblk2 kb3 hown3 hs3 xb x3 hs2 kb hoff hM hn3 hmem;subst hbv
       go_light
       go_wp2_with (first | (at_builtin; go_must (refine wpList_append_own _ rfl _ _ 23 rfl (B2) 82 j0 (.agg #[.string emp,.int .i64 0,.slice none 0 0]) 3 48 Tryz.underlying23 ji jz0 jz1 jz2 rfl (by decide) _ _ _ rfl HOW.out ⟨wr.heap.size + 1,0,none⟩ 1 1 [.string nm,.int .i64 ch,.slice A3 n3 cap3] rfl rfl (Q7n HKB.out) ?_ ?_ ?_ HS3.out ?_; (focus (intro u hu; simp only [List.mem_cons,List.not_mem_nil,or_false] at hu; rcases hu with rfl | rfl | rfl <;> rfl)); (focus (unfold maxLen; omega)); (focus omega); intro v' w1 hown' hgrow _; refine halted ?_)))
       have HB4:=Lib.hid (Q3l HB3X.out HOW.out (by omega) hgrow)
       have HO4:Hid (Q1z w1 B2 82 3 enc3 v' ((List.range (k + 1)).map (cF t fun j=>if j = k then .slice A3 n3 cap3 else mc j))):=by exact (by
        have h:=Q1z.snoc (enc:=enc3) (x:=(nm,ch,Value.slice A3 n3 cap3)) (l:=tk) (by rw [hlen]; exact hown')
        rw [← HTKK.out,Y9k HNM.out HCH.out] at h;exact h:Q1z w1 B2 82 3 enc3 v' ((List.range (k + 1)).map (cF t fun j=>if j = k then .slice A3 n3 cap3 else mc j)))
       have HOF4:=Lib.hid (HOF.out.grown HOW.out (by omega) (by omega) hgrow)
       have hsh:∃ A c,v' = .slice A (k + 1) c:=by
        obtain ⟨A,c,h,_⟩:=HO4.out.shape;exact ⟨A,c,by rw [h]; congr 1; simp⟩
       obtain ⟨A8,c8,hv'⟩:=hsh;rw [hv'] at HO4 ⊢;clear hown' hgrow hv' c0 e0 e1 e2;unfold Q3f;go_wp2_with (refine Q1b rfl _ _ 23 rfl Tryz.X0s (g:=O) (k:=1) (u:=.slice A8 (k + 1) c8) rfl rfl rfl rfl HB4.out (by show 1 < 3; omega) ?_; intro w5 hb5 hl5 ho5; refine halted ?_)
       have HB5:=Lib.hid hb5;have HO5:=Lib.hid (HO4.out.only (by omega) ho5)
       have HOF5:=Lib.hid (X8g HOF4.out hl5 ho5);clear hb5 hl5 ho5;unfold Q3f;go_wp2;go_roundw
       case rel=>exact ⟨k + 1,_,fun j=>if j = k then .slice A3 n3 cap3 else mc j,by omega,by go_num,HO5.out,(fun j hj=>by
           by_cases hjk:j = k
           · subst hjk; simp only [if_true]; exact HM.out
           · simp only [hjk,if_false]; exact HMEM.out j (by omega)),HB5.out,HOF5.out⟩
       case measure=>simp [intOf]; omega
     · have hkn:k = t.causes.length:=by omega
       subst hkn;have HCV:=Lib.hid hown;have HB2:=Lib.hid hblk;have HBE2:=Lib.hid hbel;have HBV2:=Lib.hid (HBV.out.off (by omega) hoff)
       have kt:=K0.out.below hbel (by omega)
       have c2:=kt.cell 2;simp only [List.getElem?_toArray,List.getElem?_cons_zero,List.getElem?_cons_succ] at c2;obtain ⟨W2,hW2⟩:∃ X,wr = X:=⟨_,rfl⟩;rw [hW2] at HCV HB2 HBE2 HBV2 c2 hwrs ⊢;obtain ⟨cv,hcv⟩:∃ x,xv = x:=⟨_,rfl⟩;rw [hcv] at HCV HB2;clear hown hmem hblk hbel hoff HOFF hW2 kt hcv HBV HB1 HBE1;go_wp2;clear c2;obtain ⟨B3,hB3⟩:∃ B,W2.heap.size = B:=⟨_,rfl⟩;have hB3O:O < B3:=by omega
       have HMC:=Lib.hid HMEM.out;clear HMEM
       go_loopw [41] (fun i wr=>∃ (k:Nat) (xv:Value) (mg:Nat → Value),k ≤ t.gates.length ∧ i = .int .i64 k ∧ Q1z wr B3 128 3 enc3 xv ((List.range k).map (gF t mg)) ∧ (∀ j,j < k → Q0f w (mg j) (Q0l t.gates j)) ∧ Blk wr O 26 #[bv,cv,xv] ∧ Off O W2 wr) (fun i _=>t.gates.length - (intOf i).toNat)
       case atStart=>exact ⟨0,_,fun _=>undef,Nat.zero_le _,rfl,Q1z.nil _ _ _ _ _,fun j hj=>by omega,HB2.out,Off.refl _ _⟩
       case round =>
        obtain ⟨k,xv,mg,hk,rfl,hown,hmem,hblk,hoff⟩:=hrel;have HOFF:=Lib.hid hoff;have hwrs:O + 1 ≤ wr.heap.size:=hblk.lt;have hbel:Below O W wr:=HBE2.out.trans hoff.1;have HMEM:=Lib.hid hmem
        by_cases hlt:k < t.gates.length
        · obtain ⟨_,_,he0,_,_,hcc⟩:=HT0.out.gates.opened
          cases he0;obtain ⟨b1,off,mvv,rfl,hb1,e0,e1,e2,hM,_⟩:=hcc k hlt;have hb1':b1 < O:=by omega
          replace e0:=(hbel.cell (p:=⟨b1,off + k * 3,none⟩) hb1').trans (HXW.out.cell e0);replace e1:=(hbel.cell (p:=⟨b1,off + k * 3 + 1,none⟩) hb1').trans (HXW.out.cell e1);replace e2:=(hbel.cell (p:=⟨b1,off + k * 3 + 2,none⟩) hb1').trans (HXW.out.cell e2);obtain ⟨A3,cap3,rfl,_,_,_⟩:=hM.opened;have HM:=Lib.hid hM;obtain ⟨nm,hnm⟩:∃ x,Q2c t.gates k = x:=⟨_,rfl⟩;obtain ⟨ch,hch⟩:∃ x,Q2x t.gates k = x:=⟨_,rfl⟩;rw [hnm] at e0;rw [hch] at e1;have HNM:=Lib.hid hnm;have HCH:=Lib.hid hch;obtain ⟨n3,hn3⟩:∃ n,(Q0l t.gates k).length = n:=⟨_,rfl⟩;rw [hn3] at e2 HM;have hlen:((List.range k).map (gF t mg)).length = k:=by simp
          obtain ⟨tk,htk⟩:∃ x,(List.range k).map (gF t mg) = x:=⟨_,rfl⟩;rw [htk] at hown hlen;have HTKK:=Lib.hid htk;have xb:=Ext.box wr (.cells #[.string nm,.int .i64 ch,.slice A3 n3 cap3] 129);have kb:=Blk.made wr 129 #[.string nm,.int .i64 ch,.slice A3 n3 cap3];have hown2:=hown.below xb;have hblk2:=hblk.ext xb;have c0:=hblk2.cell 2;have hkI:(k:Int) < t.gates.length:=by omega
          have hs2:(wr.alloc (.cells #[.string nm,.int .i64 ch,.slice A3 n3 cap3] 129)).heap.size = wr.heap.size + 1:=by simp
          simp only [List.getElem?_toArray,List.getElem?_cons_zero,List.getElem?_cons_succ] at c0;have x3:=Ext.box (wr.alloc (.cells #[.string nm,.int .i64 ch,.slice A3 n3 cap3] 129)) (.cells #[.string nm,.int .i64 ch,.slice A3 n3 cap3] 128);have kb3:=Blk.made (wr.alloc (.cells #[.string nm,.int .i64 ch,.slice A3 n3 cap3] 129)) 128 #[.string nm,.int .i64 ch,.slice A3 n3 cap3];rw [hs2] at kb3;have hbs:B3 ≤ wr.heap.size:=by have:=hoff.2.1; omega
          have hs3:B3 ≤ ((wr.alloc (.cells #[.string nm,.int .i64 ch,.slice A3 n3 cap3] 129)).alloc (.cells #[.string nm,.int .i64 ch,.slice A3 n3 cap3] 128)).heap.size:=by simp; omega
          obtain ⟨A9,c9,hbv,_⟩:=hown2.shape;rw [hlen] at hbv;have hown3:=hown2.below x3;unfold Q1z at hown3;rw [hlen] at hown3;have HB3X:=Lib.hid (hblk2.ext x3);have HKB:=Lib.hid kb3;have HOW:=Lib.hid hown3;have HS3:=Lib.hid hs3;have HXB:=Lib.hid (xb.trans x3);have HOF:=Lib.hid ((hoff.ext xb (by omega)).ext x3 (by rw [hs2]; omega))
          clear hcc hown hblk hnm hch htk hbel hown2 hblk2 kb3 hown3 hs3 xb x3 hs2 kb hoff hM hn3 hmem;subst hbv
          go_light
          go_wp2_with (first | (at_builtin; go_must (refine wpList_append_own _ rfl _ _ 24 rfl (B3) 128 l0 (.agg #[.string emp,.int .i64 0,.slice none 0 0]) 3 48 Tryz.underlying24 li lz0 lz1 lz2 rfl (by decide) _ _ _ rfl HOW.out ⟨wr.heap.size + 1,0,none⟩ 1 1 [.string nm,.int .i64 ch,.slice A3 n3 cap3] rfl rfl (Q7n HKB.out) ?_ ?_ ?_ HS3.out ?_; (focus (intro u hu; simp only [List.mem_cons,List.not_mem_nil,or_false] at hu; rcases hu with rfl | rfl | rfl <;> rfl)); (focus (unfold maxLen; omega)); (focus omega); intro v' w1 hown' hgrow _; refine halted ?_)))
          have HB4:=Lib.hid (Q3l HB3X.out HOW.out (by omega) hgrow)
          have HO4:Hid (Q1z w1 B3 128 3 enc3 v' ((List.range (k + 1)).map (gF t fun j=>if j = k then .slice A3 n3 cap3 else mg j))):=by exact (by
           have h:=Q1z.snoc (enc:=enc3) (x:=(nm,ch,Value.slice A3 n3 cap3)) (l:=tk) (by rw [hlen]; exact hown')
           rw [← HTKK.out,Y7r HNM.out HCH.out] at h;exact h:Q1z w1 B3 128 3 enc3 v' ((List.range (k + 1)).map (gF t fun j=>if j = k then .slice A3 n3 cap3 else mg j)))
          have HOF4:=Lib.hid (HOF.out.grown HOW.out (by omega) (by omega) hgrow)
          have hsh:∃ A c,v' = .slice A (k + 1) c:=by
           obtain ⟨A,c,h,_⟩:=HO4.out.shape;exact ⟨A,c,by rw [h]; congr 1; simp⟩
          obtain ⟨A8,c8,hv'⟩:=hsh;rw [hv'] at HO4 ⊢;clear hown' hgrow hv' c0 e0 e1 e2;unfold Q3f;go_wp2_with (refine Q1b rfl _ _ 24 rfl Tryz.X6m (g:=O) (k:=2) (u:=.slice A8 (k + 1) c8) rfl rfl rfl rfl HB4.out (by show 2 < 3; omega) ?_; intro w5 hb5 hl5 ho5; refine halted ?_)
          have HB5:=Lib.hid hb5;have HO5:=Lib.hid (HO4.out.only (by omega) ho5)
          have HOF5:=Lib.hid (X8g HOF4.out hl5 ho5);clear hb5 hl5 ho5;unfold Q3f;go_wp2;go_roundw
          case rel=>exact ⟨k + 1,_,fun j=>if j = k then .slice A3 n3 cap3 else mg j,by omega,by go_num,HO5.out,(fun j hj=>by
              by_cases hjk:j = k
              · subst hjk; simp only [if_true]; exact HM.out
              · simp only [hjk,if_false]; exact HMEM.out j (by omega)),HB5.out,HOF5.out⟩
          case measure=>simp [intOf]; omega
        · have hkn:k = t.gates.length:=by omega
          subst hkn;have HOUT:=Lib.hid hblk;have HBVF:=Lib.hid (HBV2.out.off (by omega) hoff)
          have HCVF:=Lib.hid (HCV.out.off (by omega) hoff)
          have HGV:=Lib.hid hown;have hR:=R0.out.below hbel (by omega)
          have HBF:=Lib.hid hbel;clear hown hmem hoff HOFF hblk;go_wp2_with (first | (refine Q0j rfl _ _ rfl Tryz.Q2g Tryz.Q0x rfl HOUT.out rfl ?_) | (refine Q0d rfl _ _ 26 rfl Tryz.Q0x rfl rfl hR rfl rfl ?_ ?_; (focus (exact Q8q HBVF.out HCVF.out HGV.out)); intro w9 hb9 hl9 ho9))
          refine bodyPost_ret (Q3h Tryz.results28 rfl hb9 Tryz.Q2g Tryz.Q0x) rfl ?_;have hxf:Ext w w9:=Below.trans (Below.trans HXW.out (HBF.out.mono (B':=w.heap.size) (by omega))) (hl9 _ (by omega))
          refine ⟨_,rfl,⟨_,_,_,rfl,⟨?_,?_,?_⟩⟩,hxf⟩
          · exact Q8p (HBVF.out.only (g:=w.heap.size + 1) (by omega) ho9) HT0.out.basics
          · exact Q8l (HCVF.out.only (g:=w.heap.size + 1) (by omega) ho9) HT0.out.causes fun i hi=>(HMC.out i hi).ext hxf
          · exact Q8c (HGV.out.only (g:=w.heap.size + 1) (by omega) ho9) HT0.out.gates fun i hi=>(HMEM.out i hi).ext hxf
end Go.Proofs
