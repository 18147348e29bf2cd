/- Contract of the law's own function: told. Contract of the reference: copied. Contract: Tested. Contract of the reference: Tested. Contract of the reference: Without. -/
import Derived.Test.YtgopmebjbkdfgaaGreatDoorMz27
import Derived.Deep.DeepCutAuto
import Derived.Test.YtgopmebjbkdfgaaGreatDoorMz23
import Derived.Test.YtgopmebjbkdfgaaGreatDoorMz14
set_option maxRecDepth 1000000
set_option maxHeartbeats 64000000
set_option linter.unusedVariables false
set_option linter.unusedSimpArgs false
set_option linter.constructorNameAsVariable false
namespace Go.Proofs
open Go.RowKit Go.Tw Go.Flow
theorem Tryz.J5v:(Tryz.prog.info? 48).map (fun i=>(i.zero,i.size,i.bytes)) = some (some (.agg #[.string emp,.int .i64 0]),2,24):=by kernel_rfl
theorem Tryz.J5t:(Tryz.prog.info? 50).map (fun i=>(i.zero,i.size,i.bytes)) = some (some (.agg #[.string emp,.int .i64 0,.slice none 0 0]),3,48):=by kernel_rfl
theorem Tryz.J4u:(Tryz.prog.info? 97).map (fun i=>(i.zero,i.size,i.bytes)) = some (some (.agg #[.string emp,.int .i64 0,.slice none 0 0]),3,48):=by kernel_rfl
theorem Tryz.Y7b (w:World):(sizeOf 22).run Tryz.prog w = .ok 1 w:=by kernel_rfl
theorem Tryz.Y9q (w:World):(sizeOf 23).run Tryz.prog w = .ok 1 w:=by kernel_rfl
theorem Tryz.Z3p (w:World):(sizeOf 24).run Tryz.prog w = .ok 1 w:=by kernel_rfl
theorem X9m {w w':World} {base:Nat} {v a:Value} {t:Tree} (h:Q1o w base 48 2 Q9x v t.basics) (hs:Q2l w' a t.basics):Q2l w v t.basics:=by
 obtain ⟨_,_,_,hl,_⟩:=hs.opened;refine h.rows hl Q7w (fun x hx=>?_) (fun c c' x hc h=>?_)
 . obtain ⟨k,hk,rfl⟩:=List.getElem_of_mem hx
   have:=hs.short hk;unfold bName at this;rw [getD_at hk] at this;exact ⟨rfl,rfl,this⟩
 . obtain ⟨h1,h2,h3⟩:=h
   exact ⟨by rw [<- hc 0 (by omega)]; exact h1,by rw [<- hc 1 (by omega)]; exact h2,h3⟩
theorem X8t {w w':World} {T:TypeId} {base:Nat} {v a:Value} {t:Tree} {mc:Nat -> Value} (h:Q1o w base T 3 enc3 v ((List.range t.causes.length).map (cF t mc))) (hs:Q3i w' a t.causes) (hm:∀ i,i < t.causes.length -> Q0f w (mc i) (Q0e t.causes i)):Q3i w v t.causes:=by
 obtain ⟨_,_,_,hl,_⟩:=hs.opened;refine h.rowsOf (by simp) hl Q0s (fun j h1 h2=>?_) (fun c c' x hc h=>?_)
 . have hsh:=hs.short h2
   have hmm:=hm j h2;have e:t.causes.getD j default = t.causes[j]:=getD_at h2;simp only [List.getElem_map,List.getElem_range];refine ⟨?_,?_,?_,?_⟩
   . show Value.string (cName t.causes j) = _; unfold cName; rw [e]
   . show Value.int .i64 (Q0z t.causes j) = _; unfold Q0z; rw [e]
   . show Q0f w (mc j) _; unfold Q0e at hmm; rw [e] at hmm; exact hmm
   . have:=hsh.1; unfold cName at this; rw [e] at this; exact this
 . obtain ⟨h1,h2,h3,h4⟩:=h
   exact ⟨by rw [<- hc 0 (by omega)]; exact h1,by rw [<- hc 1 (by omega)]; exact h2,by rw [<- hc 2 (by omega)]; exact h3,h4⟩
theorem X4y {w w':World} {T:TypeId} {base:Nat} {v a:Value} {t:Tree} {mg:Nat -> Value} (h:Q1o w base T 3 enc3 v ((List.range t.gates.length).map (gF t mg))) (hs:Q5f w' a t.gates) (hm:∀ i,i < t.gates.length -> Q0f w (mg i) (Q0j t.gates i)):Q5f w v t.gates:=by
 obtain ⟨_,_,_,hl,_⟩:=hs.opened;refine h.rowsOf (by simp) hl Q0s (fun j h1 h2=>?_) (fun c c' x hc h=>?_)
 . have hsh:=hs.short h2
   have hmm:=hm j h2;have e:t.gates.getD j default = t.gates[j]:=getD_at h2;simp only [List.getElem_map,List.getElem_range];refine ⟨?_,?_,?_,?_⟩
   . show Value.string (Q1u t.gates j) = _; unfold Q1u; rw [e]
   . show Value.int .i64 (Q2z t.gates j) = _; unfold Q2z; rw [e]
   . show Q0f w (mg j) _; unfold Q0j at hmm; rw [e] at hmm; exact hmm
   . have:=hsh.1; unfold Q1u at this; rw [e] at this; exact this
 . obtain ⟨h1,h2,h3,h4⟩:=h
   exact ⟨by rw [<- hc 0 (by omega)]; exact h1,by rw [<- hc 1 (by omega)]; exact h2,by rw [<- hc 2 (by omega)]; exact h3,h4⟩
structure J6k (w w':World) (t:Tree) (vb vc vg:Value) (mc mg:Nat -> Value):Prop where
 bas:Q1o w' w.heap.size 48 2 Q9x vb t.basics
 cau:Q1o w' w.heap.size 50 3 enc3 vc ((List.range t.causes.length).map (cF t mc))
 gat:Q1o w' w.heap.size 97 3 enc3 vg ((List.range t.gates.length).map (gF t mg))
 mem:∀ i,i < t.causes.length -> Q0f w (mc i) (Q0e t.causes i)
 inp:∀ i,i < t.gates.length -> Q0f w (mg i) (Q0j t.gates i)
theorem X5q {α:Type} {w:World} {base base' k:Nat} {e:TypeId} {enc:α -> List Value} {v:Value} {l:List α} (h:Q1o w base e k enc v l) (hb:base' <= base):Q1o w base' e k enc v l:=by
 obtain ⟨h1,h2⟩:=h;refine ⟨h1,?_⟩
 rcases h2 with h2 | ⟨g,cap,cur,hv,hbg,r⟩
 . exact .inl h2
 . exact .inr ⟨g,cap,cur,hv,Nat.le_trans hb hbg,r⟩
theorem Y2v {O:Nat} {a b c:World} (h:Off O a b) (hl:∀ n,n <= O -> Below n b c) (ho:∀ k,k ≠ O -> c.heap[k]? = b.heap[k]?):Off O a c :=
 ⟨h.1.trans (hl O (Nat.le_refl _)),Nat.le_trans h.2.1 (hl 0 (Nat.zero_le _)).size,fun k hk hne=>(ho k hne).trans (h.2.2 k hk hne)⟩
theorem Z1i (w:World) (v:Value) (t:Tree) (ht:IsTree w v t) (hnb:t.basics.length <= 1000) (hnc:t.causes.length <= 1000) (hng:t.gates.length <= 1000) :
    Calls Tryz.prog 16 #[v] w fun e w'=>∃ vb vc vg mc mg,e = .returned (.agg #[vb,vc,vg]) /\ J6k w w' t vb vc vg mc mg /\ Ext w w':=by
 obtain ⟨i0,hi,hz0,hz1,hz2⟩:=info_parts Tryz.J5v;obtain ⟨j0,ji,jz0,jz1,jz2⟩:=info_parts Tryz.J5t;obtain ⟨l0,li,lz0,lz1,lz2⟩:=info_parts Tryz.J4u;obtain ⟨a,b,c,rfl,h3⟩:=ht;obtain ⟨A,capa,rfl,hl1,hcap1,_⟩:=h3.basics.opened;obtain ⟨B,capb,rfl,hl2,hcap2,_⟩:=h3.causes.opened;obtain ⟨G,capg,rfl,hl3,hcap3,_⟩:=h3.gates.opened;have HT0:=Lib.hid h3;clear h3;go_enter Tryz.func16,Tryz.ntmps16;go_wp2_with fail;change Code.wp _ _ _ _ (((w.alloc (.cells #[.slice A t.basics.length capa,.slice B t.causes.length capb,.slice G t.gates.length capg] 33)).alloc (.cells #[.slice none 0 0,.slice none 0 0,.slice none 0 0] 26)).alloc (.cells #[.slice none 0 0,.slice none 0 0,.slice none 0 0] 26));obtain ⟨W,hWW,k0,k1,k2,HXW,eW⟩:=X6a w 33 #[.slice A t.basics.length capa,.slice B t.causes.length capb,.slice G t.gates.length capg] 26 #[.slice none 0 0,.slice none 0 0,.slice none 0 0] 26 #[.slice none 0 0,.slice none 0 0,.slice none 0 0];rw [hWW];clear hWW;have HT:=Lib.hid (HT0.out.ext HXW.out);have K0:=Lib.hid k0;have R0:=Lib.hid k1;have O0:=Lib.hid k2;obtain ⟨O,hO⟩:∃ O,w.heap.size + 1 + 1 = O:=⟨_,rfl⟩;rw [hO] at O0 eW ⊢;have hwO:w.heap.size + 1 + 1 = O:=hO;clear k0 k1 k2 hO;go_wp2
 go_loopw [13] (fun i wr=>∃ (k:Nat) (xv:Value),k <= t.basics.length /\ i = .int .i64 k /\ Q1o wr (O + 1) 48 2 Q9x xv (t.basics.take k) /\ Blk wr O 26 #[xv,.slice none 0 0,.slice none 0 0] /\ Off O W wr) (fun i _=>t.basics.length - (intOf i).toNat)
 case atStart=>exact ⟨0,_,Nat.zero_le _,rfl,Q1o.nil _ _ _ _ _,O0.out,Off.refl _ _⟩
 case round =>
  obtain ⟨k,xv,hk,rfl,hown,hblk,hoff⟩:=hrel;have HOFF:=Lib.hid hoff;have hwrs:O + 1 <= wr.heap.size:=hblk.lt;have hbel:Below O W wr:=hoff.1
  by_cases hlt:k < t.basics.length
  . obtain ⟨_,_,he0,_,_,hcc⟩:=HT0.out.basics.opened
    cases he0;obtain ⟨b1,off,rfl,hb1,e0,e1,_⟩:=hcc k hlt;have hb1':b1 < O:=by omega
    replace e0:=(hbel.cell (p:=⟨b1,off + k * 2,none⟩) hb1').trans (HXW.out.cell e0);replace e1:=(hbel.cell (p:=⟨b1,off + k * 2 + 1,none⟩) hb1').trans (HXW.out.cell e1);obtain ⟨nm,hnm⟩:∃ x,bName t.basics k = x:=⟨_,rfl⟩;obtain ⟨ch,hch⟩:∃ x,Q1d t.basics k = x:=⟨_,rfl⟩;rw [hnm] at e0;rw [hch] at e1;have HNM:=Lib.hid hnm;have HCH:=Lib.hid hch;have hlen:(t.basics.take k).length = k:=by simp; omega
    obtain ⟨tk,htk⟩:∃ x,t.basics.take k = x:=⟨_,rfl⟩;rw [htk] at hown hlen;have HTKK:=Lib.hid htk;have xb:=Ext.box wr (.cells #[.string nm,.int .i64 ch] 103);have kb:=Blk.made wr 103 #[.string nm,.int .i64 ch];have hown2:=hown.below xb;have hblk2:=hblk.ext xb;have c0:=hblk2.cell 0;have hkI:(k:Int) < t.basics.length:=by omega
    have hs2:(wr.alloc (.cells #[.string nm,.int .i64 ch] 103)).heap.size = wr.heap.size + 1:=by simp
    simp only [Go.Tw.gA,Go.Tw.gB,Go.Tw.gC] at c0;have x3:=Ext.box (wr.alloc (.cells #[.string nm,.int .i64 ch] 103)) (.cells #[.string nm,.int .i64 ch] 48);have kb3:=Blk.made (wr.alloc (.cells #[.string nm,.int .i64 ch] 103)) 48 #[.string nm,.int .i64 ch];rw [hs2] at kb3;have hs3:O + 1 <= ((wr.alloc (.cells #[.string nm,.int .i64 ch] 103)).alloc (.cells #[.string nm,.int .i64 ch] 48)).heap.size:=by simp; omega
    obtain ⟨A9,c9,hbv,_⟩:=hown2.shape;rw [hlen] at hbv;have hown3:=hown2.below x3;unfold Q1o at hown3;rw [hlen] at hown3;have HB3X:=Lib.hid (hblk2.ext x3);have HKB:=Lib.hid kb3;have HOW:=Lib.hid hown3;have HS3:=Lib.hid hs3;have HXB:=Lib.hid (xb.trans x3);have HOF:=Lib.hid ((hoff.ext xb (by omega)).ext x3 (by rw [hs2]; omega))
    clear hcc hown hblk hnm hch htk hbel hown2 hblk2 kb3 hown3 hs3 xb x3 hs2 kb hoff;subst hbv;go_wp2_with (first | (at_builtin; go_must (refine wpList_append_own _ rfl _ _ 22 rfl (O + 1) 48 i0 (.agg #[.string emp,.int .i64 0]) 2 24 Tryz.underlying22 hi hz0 hz1 hz2 rfl (by decide) _ _ _ rfl HOW.out ⟨wr.heap.size + 1,0,none⟩ 1 1 [.string nm,.int .i64 ch] rfl rfl (Q7u HKB.out) ?_ ?_ ?_ HS3.out ?_; (focus (intro u hu; simp only [List.mem_cons,List.not_mem_nil,or_false] at hu; rcases hu with rfl | rfl <;> rfl)); (focus (unfold maxLen; omega)); (focus omega); intro v' w1 hown' hgrow _; refine halted ?_)))
    have HB4:=Lib.hid (Q5v HB3X.out HOW.out (by omega) hgrow)
    have HO4:Hid (Q1o w1 (O + 1) 48 2 Q9x v' (t.basics.take (k + 1))):=Lib.hid (by
     have h:=Q1o.snoc (enc:=Q9x) (x:=(⟨nm,ch⟩:Basic)) (l:=tk) (by rw [hlen]; exact hown')
     have e:t.basics.take (k + 1) = tk ++ [⟨nm,ch⟩]:=by rw [<- HTKK.out,<- HNM.out,<- HCH.out]; exact Y4l hlt
     rw [e]; exact h)
    have HOF4:=Lib.hid (HOF.out.grown HOW.out (by omega) (by omega) hgrow)
    have hsh:∃ A c,v' = .slice A (k + 1) c:=by
     obtain ⟨A,c,h,_⟩:=HO4.out.shape;exact ⟨A,c,by rw [h]; congr 1; simp; omega⟩
    obtain ⟨A8,c8,hv'⟩:=hsh;rw [hv'] at HO4 ⊢;clear hown' hgrow hv' c0 e0 e1;unfold Q4m;go_wp2_with (refine Q1v rfl _ _ 22 rfl Tryz.Y7b (g:=O) (k:=0) (u:=.slice A8 (k + 1) c8) rfl rfl rfl rfl HB4.out (by show 0 < 3; omega) ?_; intro w5 hb5 hl5 ho5; refine halted ?_)
    have HB5:=Lib.hid hb5;have HO5:=Lib.hid (HO4.out.only (by omega) ho5)
    have HOF5:=Lib.hid (Y2v HOF4.out hl5 ho5);clear hb5 hl5 ho5;unfold Q4m;go_wp2;go_roundw
    case rel=>exact ⟨k + 1,_,by omega,by go_num,HO5.out,HB5.out,HOF5.out⟩
    case measure=>simp [intOf]; omega
  . have hkn:k = t.basics.length:=by omega
    subst hkn;rw [List.take_length] at hown;have HBV:=Lib.hid hown;have HB1:=Lib.hid hblk;have HBE1:=Lib.hid hbel;have kt:=K0.out.below hbel (by omega)
    have c1:=kt.cell 1;simp only [Go.Tw.gA,Go.Tw.gB,Go.Tw.gC] at c1;obtain ⟨W1,hW1⟩:∃ X,wr = X:=⟨_,rfl⟩;obtain ⟨bv,hbv⟩:∃ x,xv = x:=⟨_,rfl⟩;rw [hW1] at HBV HB1 HBE1 c1 hwrs ⊢;rw [hbv] at HBV HB1;clear hown hblk hbel hoff HOFF hW1 hbv kt;go_wp2;clear c1;obtain ⟨B2,hB2⟩:∃ B,W1.heap.size = B:=⟨_,rfl⟩;have hB2O:O < B2:=by omega
    go_loopw [27] (fun i wr=>∃ (k:Nat) (xv:Value) (mc:Nat -> Value),k <= t.causes.length /\ i = .int .i64 k /\ Q1o wr B2 50 3 enc3 xv ((List.range k).map (cF t mc)) /\ (∀ j,j < k -> Q0f w (mc j) (Q0e t.causes j)) /\ Blk wr O 26 #[bv,xv,.slice none 0 0] /\ Off O W1 wr) (fun i _=>t.causes.length - (intOf i).toNat)
    case atStart=>exact ⟨0,_,fun _=>undef,Nat.zero_le _,rfl,Q1o.nil _ _ _ _ _,fun j hj=>by omega,HB1.out,Off.refl _ _⟩
    case round =>
     obtain ⟨k,xv,mc,hk,rfl,hown,hmem,hblk,hoff⟩:=hrel;have HOFF:=Lib.hid hoff;have hwrs:O + 1 <= wr.heap.size:=hblk.lt;have hbel:Below O W wr:=HBE1.out.trans hoff.1;have HMEM:=Lib.hid hmem
     by_cases hlt:k < t.causes.length
     . obtain ⟨_,_,he0,_,_,hcc⟩:=HT0.out.causes.opened
       cases he0;obtain ⟨b1,off,mvv,rfl,hb1,e0,e1,e2,hM,_⟩:=hcc k hlt;have hb1':b1 < O:=by omega
       replace e0:=(hbel.cell (p:=⟨b1,off + k * 3,none⟩) hb1').trans (HXW.out.cell e0);replace e1:=(hbel.cell (p:=⟨b1,off + k * 3 + 1,none⟩) hb1').trans (HXW.out.cell e1);replace e2:=(hbel.cell (p:=⟨b1,off + k * 3 + 2,none⟩) hb1').trans (HXW.out.cell e2);obtain ⟨A3,cap3,rfl,_,_,_⟩:=hM.opened;have HM:=Lib.hid hM;obtain ⟨nm,hnm⟩:∃ x,cName t.causes k = x:=⟨_,rfl⟩;obtain ⟨ch,hch⟩:∃ x,Q0z t.causes k = x:=⟨_,rfl⟩;rw [hnm] at e0;rw [hch] at e1;have HNM:=Lib.hid hnm;have HCH:=Lib.hid hch;obtain ⟨n3,hn3⟩:∃ n,(Q0e t.causes k).length = n:=⟨_,rfl⟩;rw [hn3] at e2 HM;have hlen:((List.range k).map (cF t mc)).length = k:=by simp
       obtain ⟨tk,htk⟩:∃ x,(List.range k).map (cF t mc) = x:=⟨_,rfl⟩;rw [htk] at hown hlen;have HTKK:=Lib.hid htk;have xb:=Ext.box wr (.cells #[.string nm,.int .i64 ch,.slice A3 n3 cap3] 106);have kb:=Blk.made wr 106 #[.string nm,.int .i64 ch,.slice A3 n3 cap3];have hown2:=hown.below xb;have hblk2:=hblk.ext xb;have c0:=hblk2.cell 1;have hkI:(k:Int) < t.causes.length:=by omega
       have hs2:(wr.alloc (.cells #[.string nm,.int .i64 ch,.slice A3 n3 cap3] 106)).heap.size = wr.heap.size + 1:=by simp
       simp only [Go.Tw.gA,Go.Tw.gB,Go.Tw.gC] at c0;have x3:=Ext.box (wr.alloc (.cells #[.string nm,.int .i64 ch,.slice A3 n3 cap3] 106)) (.cells #[.string nm,.int .i64 ch,.slice A3 n3 cap3] 50);have kb3:=Blk.made (wr.alloc (.cells #[.string nm,.int .i64 ch,.slice A3 n3 cap3] 106)) 50 #[.string nm,.int .i64 ch,.slice A3 n3 cap3];rw [hs2] at kb3;have hbs:B2 <= wr.heap.size:=by have:=hoff.2.1; omega
       have hs3:B2 <= ((wr.alloc (.cells #[.string nm,.int .i64 ch,.slice A3 n3 cap3] 106)).alloc (.cells #[.string nm,.int .i64 ch,.slice A3 n3 cap3] 50)).heap.size:=by simp; omega
       obtain ⟨A9,c9,hbv,_⟩:=hown2.shape;rw [hlen] at hbv;have hown3:=hown2.below x3;unfold Q1o at hown3;rw [hlen] at hown3;have HB3X:=Lib.hid (hblk2.ext x3);have HKB:=Lib.hid kb3;have HOW:=Lib.hid hown3;have HS3:=Lib.hid hs3;have HXB:=Lib.hid (xb.trans x3);have HOF:=Lib.hid ((hoff.ext xb (by omega)).ext x3 (by rw [hs2]; omega))
       clear hcc hown hblk hnm hch htk hbel hown2 hblk2 kb3 hown3 hs3 xb x3 hs2 kb hoff hM hn3 hmem;subst hbv
       go_light
       go_wp2_with (first | (at_builtin; go_must (refine wpList_append_own _ rfl _ _ 23 rfl (B2) 50 j0 (.agg #[.string emp,.int .i64 0,.slice none 0 0]) 3 48 Tryz.underlying23 ji jz0 jz1 jz2 rfl (by decide) _ _ _ rfl HOW.out ⟨wr.heap.size + 1,0,none⟩ 1 1 [.string nm,.int .i64 ch,.slice A3 n3 cap3] rfl rfl (Q7u HKB.out) ?_ ?_ ?_ HS3.out ?_; (focus (intro u hu; simp only [List.mem_cons,List.not_mem_nil,or_false] at hu; rcases hu with rfl | rfl | rfl <;> rfl)); (focus (unfold maxLen; omega)); (focus omega); intro v' w1 hown' hgrow _; refine halted ?_)))
       have HB4:=Lib.hid (Q5v HB3X.out HOW.out (by omega) hgrow)
       have HO4:Hid (Q1o w1 B2 50 3 enc3 v' ((List.range (k + 1)).map (cF t fun j=>if j = k then .slice A3 n3 cap3 else mc j))):=Lib.hid (by
        have h:=Q1o.snoc (enc:=enc3) (x:=(nm,ch,Value.slice A3 n3 cap3)) (l:=tk) (by rw [hlen]; exact hown')
        rw [<- HTKK.out,J1r HNM.out HCH.out] at h;exact h)
       have HOF4:=Lib.hid (HOF.out.grown HOW.out (by omega) (by omega) hgrow)
       have hsh:∃ A c,v' = .slice A (k + 1) c:=by
        obtain ⟨A,c,h,_⟩:=HO4.out.shape;exact ⟨A,c,by rw [h]; congr 1; simp⟩
       obtain ⟨A8,c8,hv'⟩:=hsh;rw [hv'] at HO4 ⊢;clear hown' hgrow hv' c0 e0 e1 e2;unfold Q4m;go_wp2_with (refine Q1v rfl _ _ 23 rfl Tryz.Y9q (g:=O) (k:=1) (u:=.slice A8 (k + 1) c8) rfl rfl rfl rfl HB4.out (by show 1 < 3; omega) ?_; intro w5 hb5 hl5 ho5; refine halted ?_)
       have HB5:=Lib.hid hb5;have HO5:=Lib.hid (HO4.out.only (by omega) ho5)
       have HOF5:=Lib.hid (Y2v HOF4.out hl5 ho5);clear hb5 hl5 ho5;unfold Q4m;go_wp2;go_roundw
       case rel=>exact ⟨k + 1,_,fun j=>if j = k then .slice A3 n3 cap3 else mc j,by omega,by go_num,HO5.out,(fun j hj=>by
           by_cases hjk:j = k
           . subst hjk; simp only [if_true]; exact HM.out
           . simp only [hjk,if_false]; exact HMEM.out j (by omega)),HB5.out,HOF5.out⟩
       case measure=>simp [intOf]; omega
     . have hkn:k = t.causes.length:=by omega
       subst hkn;have HCV:=Lib.hid hown;have HB2:=Lib.hid hblk;have HBE2:=Lib.hid hbel;have HBV2:=Lib.hid (HBV.out.off (by omega) hoff)
       have kt:=K0.out.below hbel (by omega)
       have c2:=kt.cell 2;simp only [Go.Tw.gA,Go.Tw.gB,Go.Tw.gC] at c2;obtain ⟨W2,hW2⟩:∃ X,wr = X:=⟨_,rfl⟩;rw [hW2] at HCV HB2 HBE2 HBV2 c2 hwrs ⊢;obtain ⟨cv,hcv⟩:∃ x,xv = x:=⟨_,rfl⟩;rw [hcv] at HCV HB2;clear hown hmem hblk hbel hoff HOFF hW2 kt hcv HBV HB1 HBE1;go_wp2;clear c2;obtain ⟨B3,hB3⟩:∃ B,W2.heap.size = B:=⟨_,rfl⟩;have hB3O:O < B3:=by omega
       have HMC:=Lib.hid HMEM.out;clear HMEM
       go_loopw [41] (fun i wr=>∃ (k:Nat) (xv:Value) (mg:Nat -> Value),k <= t.gates.length /\ i = .int .i64 k /\ Q1o wr B3 97 3 enc3 xv ((List.range k).map (gF t mg)) /\ (∀ j,j < k -> Q0f w (mg j) (Q0j t.gates j)) /\ Blk wr O 26 #[bv,cv,xv] /\ Off O W2 wr) (fun i _=>t.gates.length - (intOf i).toNat)
       case atStart=>exact ⟨0,_,fun _=>undef,Nat.zero_le _,rfl,Q1o.nil _ _ _ _ _,fun j hj=>by omega,HB2.out,Off.refl _ _⟩
       case round =>
        obtain ⟨k,xv,mg,hk,rfl,hown,hmem,hblk,hoff⟩:=hrel;have HOFF:=Lib.hid hoff;have hwrs:O + 1 <= wr.heap.size:=hblk.lt;have hbel:Below O W wr:=HBE2.out.trans hoff.1;have HMEM:=Lib.hid hmem
        by_cases hlt:k < t.gates.length
        . obtain ⟨_,_,he0,_,_,hcc⟩:=HT0.out.gates.opened
          cases he0;obtain ⟨b1,off,mvv,rfl,hb1,e0,e1,e2,hM,_⟩:=hcc k hlt;have hb1':b1 < O:=by omega
          replace e0:=(hbel.cell (p:=⟨b1,off + k * 3,none⟩) hb1').trans (HXW.out.cell e0);replace e1:=(hbel.cell (p:=⟨b1,off + k * 3 + 1,none⟩) hb1').trans (HXW.out.cell e1);replace e2:=(hbel.cell (p:=⟨b1,off + k * 3 + 2,none⟩) hb1').trans (HXW.out.cell e2);obtain ⟨A3,cap3,rfl,_,_,_⟩:=hM.opened;have HM:=Lib.hid hM;obtain ⟨nm,hnm⟩:∃ x,Q1u t.gates k = x:=⟨_,rfl⟩;obtain ⟨ch,hch⟩:∃ x,Q2z t.gates k = x:=⟨_,rfl⟩;rw [hnm] at e0;rw [hch] at e1;have HNM:=Lib.hid hnm;have HCH:=Lib.hid hch;obtain ⟨n3,hn3⟩:∃ n,(Q0j t.gates k).length = n:=⟨_,rfl⟩;rw [hn3] at e2 HM;have hlen:((List.range k).map (gF t mg)).length = k:=by simp
          obtain ⟨tk,htk⟩:∃ x,(List.range k).map (gF t mg) = x:=⟨_,rfl⟩;rw [htk] at hown hlen;have HTKK:=Lib.hid htk;have xb:=Ext.box wr (.cells #[.string nm,.int .i64 ch,.slice A3 n3 cap3] 114);have kb:=Blk.made wr 114 #[.string nm,.int .i64 ch,.slice A3 n3 cap3];have hown2:=hown.below xb;have hblk2:=hblk.ext xb;have c0:=hblk2.cell 2;have hkI:(k:Int) < t.gates.length:=by omega
          have hs2:(wr.alloc (.cells #[.string nm,.int .i64 ch,.slice A3 n3 cap3] 114)).heap.size = wr.heap.size + 1:=by simp
          simp only [Go.Tw.gA,Go.Tw.gB,Go.Tw.gC] at c0;have x3:=Ext.box (wr.alloc (.cells #[.string nm,.int .i64 ch,.slice A3 n3 cap3] 114)) (.cells #[.string nm,.int .i64 ch,.slice A3 n3 cap3] 97);have kb3:=Blk.made (wr.alloc (.cells #[.string nm,.int .i64 ch,.slice A3 n3 cap3] 114)) 97 #[.string nm,.int .i64 ch,.slice A3 n3 cap3];rw [hs2] at kb3;have hbs:B3 <= wr.heap.size:=by have:=hoff.2.1; omega
          have hs3:B3 <= ((wr.alloc (.cells #[.string nm,.int .i64 ch,.slice A3 n3 cap3] 114)).alloc (.cells #[.string nm,.int .i64 ch,.slice A3 n3 cap3] 97)).heap.size:=by simp; omega
          obtain ⟨A9,c9,hbv,_⟩:=hown2.shape;rw [hlen] at hbv;have hown3:=hown2.below x3;unfold Q1o at hown3;rw [hlen] at hown3;have HB3X:=Lib.hid (hblk2.ext x3);have HKB:=Lib.hid kb3;have HOW:=Lib.hid hown3;have HS3:=Lib.hid hs3;have HXB:=Lib.hid (xb.trans x3);have HOF:=Lib.hid ((hoff.ext xb (by omega)).ext x3 (by rw [hs2]; omega))
          clear hcc hown hblk hnm hch htk hbel hown2 hblk2 kb3 hown3 hs3 xb x3 hs2 kb hoff hM hn3 hmem;subst hbv
          go_light
          go_wp2_with (first | (at_builtin; go_must (refine wpList_append_own _ rfl _ _ 24 rfl (B3) 97 l0 (.agg #[.string emp,.int .i64 0,.slice none 0 0]) 3 48 Tryz.underlying24 li lz0 lz1 lz2 rfl (by decide) _ _ _ rfl HOW.out ⟨wr.heap.size + 1,0,none⟩ 1 1 [.string nm,.int .i64 ch,.slice A3 n3 cap3] rfl rfl (Q7u HKB.out) ?_ ?_ ?_ HS3.out ?_; (focus (intro u hu; simp only [List.mem_cons,List.not_mem_nil,or_false] at hu; rcases hu with rfl | rfl | rfl <;> rfl)); (focus (unfold maxLen; omega)); (focus omega); intro v' w1 hown' hgrow _; refine halted ?_)))
          have HB4:=Lib.hid (Q5v HB3X.out HOW.out (by omega) hgrow)
          have HO4:Hid (Q1o w1 B3 97 3 enc3 v' ((List.range (k + 1)).map (gF t fun j=>if j = k then .slice A3 n3 cap3 else mg j))):=Lib.hid (by
           have h:=Q1o.snoc (enc:=enc3) (x:=(nm,ch,Value.slice A3 n3 cap3)) (l:=tk) (by rw [hlen]; exact hown')
           rw [<- HTKK.out,J1t HNM.out HCH.out] at h;exact h)
          have HOF4:=Lib.hid (HOF.out.grown HOW.out (by omega) (by omega) hgrow)
          have hsh:∃ A c,v' = .slice A (k + 1) c:=by
           obtain ⟨A,c,h,_⟩:=HO4.out.shape;exact ⟨A,c,by rw [h]; congr 1; simp⟩
          obtain ⟨A8,c8,hv'⟩:=hsh;rw [hv'] at HO4 ⊢;clear hown' hgrow hv' c0 e0 e1 e2;unfold Q4m;go_wp2_with (refine Q1v rfl _ _ 24 rfl Tryz.Z3p (g:=O) (k:=2) (u:=.slice A8 (k + 1) c8) rfl rfl rfl rfl HB4.out (by show 2 < 3; omega) ?_; intro w5 hb5 hl5 ho5; refine halted ?_)
          have HB5:=Lib.hid hb5;have HO5:=Lib.hid (HO4.out.only (by omega) ho5)
          have HOF5:=Lib.hid (Y2v HOF4.out hl5 ho5);clear hb5 hl5 ho5;unfold Q4m;go_wp2;go_roundw
          case rel=>exact ⟨k + 1,_,fun j=>if j = k then .slice A3 n3 cap3 else mg j,by omega,by go_num,HO5.out,(fun j hj=>by
              by_cases hjk:j = k
              . subst hjk; simp only [if_true]; exact HM.out
              . simp only [hjk,if_false]; exact HMEM.out j (by omega)),HB5.out,HOF5.out⟩
          case measure=>simp [intOf]; omega
        . have hkn:k = t.gates.length:=by omega
          subst hkn;have HOUT:=Lib.hid hblk;have HBVF:=Lib.hid (HBV2.out.off (by omega) hoff)
          have HCVF:=Lib.hid (HCV.out.off (by omega) hoff)
          have HGV:=Lib.hid hown;have hR:=R0.out.below hbel (by omega)
          have HBF:=Lib.hid hbel;clear hown hmem hoff HOFF hblk;go_wp2_with (first | (refine Q0o rfl _ _ rfl Tryz.Q7r Tryz.Q5k rfl HOUT.out rfl ?_) | (refine Q0g rfl _ _ 26 rfl Tryz.Q5k rfl rfl hR rfl rfl ?_ ?_; (focus (exact X3k HBVF.out HCVF.out HGV.out)); intro w9 hb9 hl9 ho9))
          refine bodyPost_ret (Q5n Tryz.results16 rfl hb9 Tryz.Q7r Tryz.Q5k) rfl ?_;have hxf:Ext w w9:=Below.trans (Below.trans HXW.out (HBF.out.mono (B':=w.heap.size) (by omega))) (hl9 _ (by omega))
          exact ⟨_,_,_,_,_,rfl,⟨X5q (HBVF.out.only (g:=w.heap.size + 1) (by omega) ho9) (by omega),X5q (HCVF.out.only (g:=w.heap.size + 1) (by omega) ho9) (by omega),X5q (HGV.out.only (g:=w.heap.size + 1) (by omega) ho9) (by omega),fun i hi=>HMC.out i hi,fun i hi=>HMEM.out i hi⟩,hxf⟩
theorem Z9v (w:World) (v:Value) (t:Tree) (ht:IsTree w v t) (hnb:t.basics.length <= 1000) (hnc:t.causes.length <= 1000) (hng:t.gates.length <= 1000) :
    Calls Tryz.prog 16 #[v] w fun e w'=>∃ u,e = .returned u /\ IsTree w' u t /\ Ext w w':=by
 obtain ⟨a,b,c,rfl,h3⟩:=id ht;refine (Z1i w _ t ht hnb hnc hng).mono ?_;rintro e w' ⟨vb,vc,vg,mc,mg,rfl,h,hx⟩;exact ⟨_,rfl,⟨_,_,_,rfl,⟨X9m h.bas h3.basics,X8t h.cau h3.causes fun i hi=>(h.mem i hi).ext hx,X4y h.gat h3.gates fun i hi=>(h.inp i hi).ext hx⟩⟩,hx⟩
end Go.Proofs
namespace Go.Proofs
open Go.RowKit Go.Tw Go.Flow
structure J1x (w:World) (base:Nat) (t:Tree) (vb vc vg:Value) (mc mg:Nat -> Value):Prop where
 bas:Q1o w base 48 2 Q9x vb t.basics
 cau:Q1o w base 50 3 enc3 vc ((List.range t.causes.length).map (cF t mc))
 gat:Q1o w base 97 3 enc3 vg ((List.range t.gates.length).map (gF t mg))
 mem:∀ i,i < t.causes.length -> Q0t w 0 3 (.int .i64) (mc i) (Q0e t.causes i)
 inp:∀ i,i < t.gates.length -> Q0t w 0 3 (.int .i64) (mg i) (Q0j t.gates i)
theorem J1x.ext {w w':World} {base:Nat} {t:Tree} {vb vc vg:Value} {mc mg:Nat -> Value} (h:J1x w base t vb vc vg mc mg) (hx:Ext w w'):J1x w' base t vb vc vg mc mg :=
 ⟨h.bas.below hx,h.cau.below hx,h.gat.below hx,fun i hi=>(h.mem i hi).below hx,fun i hi=>(h.inp i hi).below hx⟩
theorem J1x.tree {w w0:World} {base:Nat} {t:Tree} {a b c vb vc vg:Value} {mc mg:Nat -> Value} (h:J1x w base t vb vc vg mc mg) (ht:Q3u w0 a b c t):Q3u w vb vc vg t :=
 ⟨X9m h.bas ht.basics,X8t h.cau ht.causes fun i hi=>(h.mem i hi).ints (ht.causes.short hi).2,X4y h.gat ht.gates fun i hi=>(h.inp i hi).ints (ht.gates.short hi).2⟩
theorem Q8p {α:Type} {w:World} {base base' k:Nat} {e:TypeId} {enc:α -> List Value} {v:Value} {l:List α} (h:Q1o w base e k enc v l) (hb:base' <= base):Q1o w base' e k enc v l:=by
 obtain ⟨h1,h2⟩:=h;refine ⟨h1,?_⟩
 rcases h2 with h2 | ⟨g,cap,cur,hv,hbg,r⟩
 . exact .inl h2
 . exact .inr ⟨g,cap,cur,hv,Nat.le_trans hb hbg,r⟩
theorem Y5h {w:World} {A:Option Addr} {n cap:Nat} {l:List Basic} {a:Addr} (h:Q2l w (.slice A n cap) l) (ha:A = some a):∀ j u,(l.flatMap Q9x)[j]? = some u -> w.cell? (a.add j) = some u:=by
 obtain ⟨c,⟨A',cap',hv,_,_,hc⟩,h2⟩:=h;cases hv;intro j u hj;have hlen:=Q6n Q7w l;have hjl:j < (l.flatMap Q9x).length:=(List.getElem?_eq_some_iff.1 hj).1;obtain ⟨b,off,hA,hcell⟩:=hc j (by omega)
 rw [ha] at hA;cases hA;rw [addr_add,hcell];have e:j = j / 2 * 2 + j % 2:=by omega
 have hk:j / 2 < l.length:=by omega
 rw [e,flat_get Q7w l (j / 2) (j % 2) hk (by omega)] at hj
 obtain ⟨h0,h1,_⟩:=h2 (j / 2) hk
 rcases Nat.mod_two_eq_zero_or_one j with hm | hm
 . rw [hm] at hj e
   have h0':c (j / 2 * 2 + 0) = .string l[j / 2].name:=h0;rw [e,h0']
   simpa [Q9x] using hj
 . rw [hm] at hj e
   have h1':c (j / 2 * 2 + 1) = .int .i64 l[j / 2].chance:=h1;rw [e,h1']
   simpa [Q9x] using hj
theorem Z1n (l:List Basic):∀ u ∈ l.flatMap Q9x,u.oneCell' = true:=by
 intro u hu;obtain ⟨x,_,hu⟩:=List.mem_flatMap.1 hu;simp only [Q9x,List.mem_cons,List.not_mem_nil,or_false] at hu
 rcases hu with rfl | rfl <;> rfl
theorem Y7j {w:World} {base b:Nat} {v:Value} {l:List Int} (h:Q0t w base 3 (.int .i64) v l) (hb:v.ownBlock = some b):base <= b /\ b < w.heap.size:=by
 obtain ⟨_,h2⟩:=h
 rcases h2 with ⟨rfl,_⟩ | ⟨g,cap,cur,rfl,hbg,hgl,_⟩
 . cases hb
 . cases hb
   exact ⟨hbg,(Array.getElem?_eq_some_iff.1 hgl).1⟩
def Apart (u v:Value):Prop:=∀ b,u.ownBlock = some b -> v.ownBlock ≠ some b
def Fam (B n:Nat) (m:Nat -> Value):Prop:=(∀ i,i < n -> ∀ b,(m i).ownBlock = some b -> B <= b) /\ ∀ i j,i < j -> j < n -> Apart (m i) (m j)
def Z0e (B:Nat) (t:Tree) (mc mg:Nat -> Value):Prop:=Fam B t.causes.length mc /\ Fam B t.gates.length mg /\ ∀ i j,i < t.causes.length -> j < t.gates.length -> Apart (mc i) (mg j)
theorem Fam.nil (B:Nat) (m:Nat -> Value):Fam B 0 m:=⟨fun _ h=>absurd h (Nat.not_lt_zero _),fun _ _ _ h=>absurd h (Nat.not_lt_zero _)⟩
theorem Fam.weaken {B B' n:Nat} {m:Nat -> Value} (h:Fam B n m) (hb:B' <= B):Fam B' n m:=⟨fun i hi b hi2=>Nat.le_trans hb (h.1 i hi b hi2),h.2⟩
theorem Fam.snoc {w w':World} {B k:Nat} {m:Nat -> Value} {v:Value} {L:Nat -> List Int} {l:List Int} (h:Fam B k m) (hm:∀ j,j < k -> Q0t w 0 3 (.int .i64) (m j) (L j)) (hv:Q0t w' w.heap.size 3 (.int .i64) v l) (hB:B <= w.heap.size) :
    Fam B (k + 1) (fun j=>if j = k then v else m j):=by
 refine ⟨fun i hi b hb=>?_,fun i j hij hj b h1 h2=>?_⟩
 . replace hb:(if i = k then v else m i).ownBlock = some b:=hb
   by_cases e:i = k
   . rw [if_pos e] at hb
     exact Nat.le_trans hB (Y7j hv hb).1
   . rw [if_neg e] at hb
     exact h.1 i (by omega) b hb
 . replace h1:(if i = k then v else m i).ownBlock = some b:=h1
   replace h2:(if j = k then v else m j).ownBlock = some b:=h2
   have ei:¬ i = k:=by omega
   rw [if_neg ei] at h1
   by_cases e:j = k
   . rw [if_pos e] at h2
     have:=(Y7j hv h2).1;have:=(Y7j (hm i (by omega)) h1).2
     omega
   . rw [if_neg e] at h2
     exact h.2 i j hij (by omega) b h1 h2
end Go.Proofs
namespace Go.Proofs
open Go.RowKit Go.Tw Go.Flow
def cT (t:Tree) (mc:Nat -> Value) (k:Nat) (c:Int) (i:Nat):ByteArray × Int × Value:=if i = k then (cName t.causes k,c,mc k) else cF t mc i
end Go.Proofs
namespace Go.Proofs
open Go.RowKit Go.Tw Go.Flow
theorem Y9w {α:Type} {enc:α -> List Value} {k:Nat} (hk:∀ x,(enc x).length = k) {x:Value} {y:α}:∀ (l:List α) (i j:Nat) (hi:i < l.length),j < k -> enc y = (enc l[i]).set j x -> (l.flatMap enc).set (i * k + j) x = (l.set i y).flatMap enc
 | a :: l,0,j,_,hj,he=>by
   rw [List.set_cons_zero,List.flatMap_cons,List.flatMap_cons,he,Nat.zero_mul,Nat.zero_add,List.set_append_left _ _ (by rw [hk]; exact hj)]
   rfl
 | a :: l,i + 1,j,hi,hj,he=>by
   have ih:=Y9w hk l i j (by simpa using hi) hj (by simpa using he)
   rw [List.set_cons_succ,List.flatMap_cons,List.flatMap_cons,<- ih,List.set_append_right _ _ (by rw [hk,Nat.add_mul]; omega)]
   congr 2
   rw [hk,Nat.add_mul];omega
theorem X1c {α:Type} {w:World} {base k:Nat} {e:TypeId} {enc:α -> List Value} {v:Value} {l:List α} (h:Q1o w base e k enc v l) (h0:0 < l.length) :
    ∃ g cap cur,v = .slice (some ⟨g,0,none⟩) l.length cap /\ base <= g /\ Blk w g e cur /\ l.length <= cap /\ cap <= maxLen /\ cur.size = cap * k /\ cur.toList.take (l.length * k) = l.flatMap enc:=by
 rcases h.2 with ⟨_,hn⟩ | ⟨g,cap,cur,hv,hb,hg,hc,hm,hs,ht⟩
 . omega
 . exact ⟨g,cap,cur,hv,hb,hg,hc,hm,hs,ht⟩
theorem Y3g {α:Type} {w':World} {base k g cap:Nat} {e:TypeId} {enc:α -> List Value} {cur:Array Value} {l:List α} {i j:Nat} {x:Value} {y:α} (hk:∀ x,(enc x).length = k) (hb:base <= g) (hc:l.length <= cap) (hm:cap <= maxLen) (hs:cur.size = cap * k) (ht:cur.toList.take (l.length * k) = l.flatMap enc)
    (hi:i < l.length) (hj:j < k) (he:enc y = (enc l[i]).set j x) (hw:Blk w' g e (cur.setIfInBounds (i * k + j) x)):Q1o w' base e k enc (.slice (some ⟨g,0,none⟩) l.length cap) (l.set i y):=by
 refine ⟨by rw [Q6n hk],.inr ⟨g,cap,_,by rw [List.length_set],hb,hw,by rw [List.length_set]; exact hc,hm,by simpa using hs,?_⟩⟩
 rw [List.length_set,Array.toList_setIfInBounds,List.take_set,ht,Y9w hk l i j hi hj he]
theorem Q6d {α:Type} {w:World} {g k:Nat} {e:TypeId} {enc:α -> List Value} {cur:Array Value} {l:List α} (hk:∀ x,(enc x).length = k) (hb:Blk w g e cur) (ht:cur.toList.take (l.length * k) = l.flatMap enc) {i j:Nat} (hi:i < l.length) (hj:j < k):w.cell? ⟨g,i * k + j,none⟩ = (enc l[i])[j]?:=by
 rw [hb.cell,<- flat_get hk l i j hi hj,<- ht,List.getElem?_take,if_pos,Array.getElem?_toList];have:(i + 1) * k <= l.length * k:=Nat.mul_le_mul_right k hi;rw [Nat.add_mul] at this;omega
theorem Y8d {w:World} {base:Nat} {v:Value} {l:List Basic} (h:Q1o w base 48 2 Q9x v l) (hl:l.length <= 17592186043904) (hsh:∀ i,i < l.length -> Short (bName l i)):Q2l w v l:=by
 refine h.rows hl Q7w (fun x hx=>?_) (fun c c' x hc h=>?_)
 . obtain ⟨k,hk,rfl⟩:=List.getElem_of_mem hx
   have:=hsh k hk;unfold bName at this;rw [getD_at hk] at this;exact ⟨rfl,rfl,this⟩
 . obtain ⟨h1,h2,h3⟩:=h
   exact ⟨by rw [<- hc 0 (by omega)]; exact h1,by rw [<- hc 1 (by omega)]; exact h2,h3⟩
theorem Y7e {w:World} {base:Nat} {v:Value} {l:List Q6p} {mc:Nat -> Value} (h:Q1o w base 50 3 enc3 v ((List.range l.length).map fun i=>(cName l i,Q0z l i,mc i))) (hl:l.length <= 17592186043904) (hsh:∀ i,i < l.length -> Short (cName l i)) (hm:∀ i,i < l.length -> Q0f w (mc i) (Q0e l i)):Q3i w v l:=by
 refine h.rowsOf (by simp) hl Q0s (fun j h1 h2=>?_) (fun c c' x hc h=>?_)
 . have hmm:=hm j h2
   have e:l.getD j default = l[j]:=getD_at h2;simp only [List.getElem_map,List.getElem_range];refine ⟨?_,?_,?_,?_⟩
   . show Value.string (cName l j) = _; unfold cName; rw [e]
   . show Value.int .i64 (Q0z l j) = _; unfold Q0z; rw [e]
   . show Q0f w (mc j) _; unfold Q0e at hmm; rw [e] at hmm; exact hmm
   . have:=hsh j h2; unfold cName at this; rw [e] at this; exact this
 . obtain ⟨h1,h2,h3,h4⟩:=h
   exact ⟨by rw [<- hc 0 (by omega)]; exact h1,by rw [<- hc 1 (by omega)]; exact h2,by rw [<- hc 2 (by omega)]; exact h3,h4⟩
end Go.Proofs
namespace Go.Tw
open Go.RowKit Go.Flow
theorem Q9p {α:Type} {P:Program} {K:Value -> World -> Prop} {o:Oper} {a:Act} {w:World} (s x:Operand) (t:TypeId) (ho:o.op = .call { callee:=.builtin .append,args:=#[s,x],argTypes:=#[t,t] })
    (base:Nat) (e:TypeId) (i:TypeInfo) (z:Value) (k bytes:Nat) (ht:P.underlying t = some (.slice e)) (hi:P.info? e = some i) (hz:i.zero = some z) (hsize:i.size = k) (hby:i.bytes = bytes) (hzs:z.cells.size = k) (hk0:0 < k)
    (enc:α -> List Value) (hk:∀ x,(enc x).length = k) (v:Value) (xs ys:List α) (hs:a.eval s = v) (hown:Q1o w base e k enc v xs) (A:Option Addr) (c:Nat) (hx:a.eval x = .slice A ys.length c)
    (hA:0 < ys.length -> ∃ ad,A = some ad /\ ∀ j u,(ys.flatMap enc)[j]? = some u -> w.cell? (ad.add j) = some u) (h1:∀ u ∈ ys.flatMap enc,u.oneCell' = true)
    (h63:xs.length + ys.length <= 100000) (hb:bytes <= 1000) (hbase:base <= w.heap.size)
    (h:∀ v' w',Q1o w' base e k enc v' (xs ++ ys) -> w.grownBy w' v.ownBlock -> K v' w'):gives P K ((execOp a.eval o).run P w):=by
 rcases Nat.eq_zero_or_pos ys.length with h0 | h0
 . have e0:ys = []:=List.eq_nil_of_length_eq_zero h0
   subst e0;obtain ⟨b,c',rfl,hcap⟩:=hown.shape;unfold execOp;simp only [ho,resolve,invoke,builtin,Sem.run_bind,Sem.run_pure,Result.andThen_ok,List.map_toArray,List.map_cons,List.map_nil,hs,hx];rw [List.length_nil,X0s (P:=P) w t o.type e i ht hi b A xs.length c' c hcap];exact h _ _ (by simpa using hown) ⟨rfl,rfl,rfl,Nat.le_refl _,fun _ _ _=>rfl⟩
 . obtain ⟨ad,rfl,hnews⟩:=hA h0
   have hbytes:(xs.length + ys.length) * bytes <= 140737488355328:=by
    have:(xs.length + ys.length) * bytes <= 100000 * 1000:=Nat.mul_le_mul h63 hb;omega
   obtain ⟨v',w',hr,h2,h3,h4⟩:=run_append_own (P:=P) w base t o.type e i z k bytes ht hi hz hsize hby hzs hk0 v xs.length (xs.flatMap enc) hown ad ys.length c (ys.flatMap enc) (Q6n hk ys) hnews h1 (by unfold maxLen; omega) hbytes hbase
   unfold execOp;simp only [ho,resolve,invoke,builtin,Sem.run_bind,Sem.run_pure,Result.andThen_ok,List.map_toArray,List.map_cons,List.map_nil,hs,hx,hr];refine h v' w' ?_ h3;unfold Q1o;rw [List.length_append,List.flatMap_append];exact h2
end Go.Tw
namespace Go.Proofs
open Go.RowKit Go.Tw Go.Flow
end Go.Proofs
