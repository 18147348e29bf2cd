/- Contract of the law's own function: told. -/
import Derived.Test.YtgopmebjbkdfgaaGreatDoorFm33
set_option maxRecDepth 1000000
set_option maxHeartbeats 64000000
set_option linter.unusedVariables false
set_option linter.unusedSimpArgs false
set_option linter.constructorNameAsVariable false
namespace Go.Proofs
open Go.RowKit Go.Tw Go.Flow
theorem Tryz.Z2o:(Tryz.prog.info? 48).map (fun i=>(i.zero,i.size,i.bytes)) = some (some (.agg #[.string emp,.int .i64 0]),2,24):=by kernel_rfl
theorem Tryz.Y9p:(Tryz.prog.info? 50).map (fun i=>(i.zero,i.size,i.bytes)) = some (some (.agg #[.string emp,.int .i64 0,.slice none 0 0]),3,48):=by kernel_rfl
theorem Tryz.Z1c:(Tryz.prog.info? 97).map (fun i=>(i.zero,i.size,i.bytes)) = some (some (.agg #[.string emp,.int .i64 0,.slice none 0 0]),3,48):=by kernel_rfl
theorem Tryz.Y3j (w:World):(sizeOf 22).run Tryz.prog w = .ok 1 w:=by kernel_rfl
theorem Tryz.X2a (w:World):(sizeOf 23).run Tryz.prog w = .ok 1 w:=by kernel_rfl
theorem Tryz.X3u (w:World):(sizeOf 24).run Tryz.prog w = .ok 1 w:=by kernel_rfl
theorem X7b {w w':World} {base:Nat} {v a:Value} {t:Tree} (h:Q1d w base 48 2 Q8h v t.basics) (hs:Q2j w' a t.basics):Q2j w v t.basics:=by
 obtain ⟨_,_,_,hl,_⟩:=hs.opened;refine h.rows hl Q6k (fun x hx=>?_) (fun c c' x hc h=>?_)
 . obtain ⟨k,hk,rfl⟩:=List.getElem_of_mem hx
   have:=hs.short hk;unfold bName at this;rw [getD_at hk] at this;exact ⟨rfl,rfl,this⟩
 . obtain ⟨h1,h2,h3⟩:=h
   exact ⟨by rw [<- hc 0 (by omega)]; exact h1,by rw [<- hc 1 (by omega)]; exact h2,h3⟩
theorem X6p {w w':World} {T:TypeId} {base:Nat} {v a:Value} {t:Tree} {mc:Nat -> Value} (h:Q1d w base T 3 enc3 v ((List.range t.causes.length).map (cF t mc))) (hs:Q3p w' a t.causes) (hm:∀ i,i < t.causes.length -> Q0f w (mc i) (Q0e t.causes i)):Q3p w v t.causes:=by
 obtain ⟨_,_,_,hl,_⟩:=hs.opened;refine h.rowsOf (by simp) hl Q0o (fun j h1 h2=>?_) (fun c c' x hc h=>?_)
 . have hsh:=hs.short h2
   have hmm:=hm j h2;have e:t.causes.getD j default = t.causes[j]:=getD_at h2;simp only [List.getElem_map,List.getElem_range];refine ⟨?_,?_,?_,?_⟩
   . show Value.string (cName t.causes j) = _; unfold cName; rw [e]
   . show Value.int .i64 (Q1l t.causes j) = _; unfold Q1l; rw [e]
   . show Q0f w (mc j) _; unfold Q0e at hmm; rw [e] at hmm; exact hmm
   . have:=hsh.1; unfold cName at this; rw [e] at this; exact this
 . obtain ⟨h1,h2,h3,h4⟩:=h
   exact ⟨by rw [<- hc 0 (by omega)]; exact h1,by rw [<- hc 1 (by omega)]; exact h2,by rw [<- hc 2 (by omega)]; exact h3,h4⟩
theorem X8x {w w':World} {T:TypeId} {base:Nat} {v a:Value} {t:Tree} {mg:Nat -> Value} (h:Q1d w base T 3 enc3 v ((List.range t.gates.length).map (gF t mg))) (hs:Q4z w' a t.gates) (hm:∀ i,i < t.gates.length -> Q0f w (mg i) (Q0i t.gates i)):Q4z w v t.gates:=by
 obtain ⟨_,_,_,hl,_⟩:=hs.opened;refine h.rowsOf (by simp) hl Q0o (fun j h1 h2=>?_) (fun c c' x hc h=>?_)
 . have hsh:=hs.short h2
   have hmm:=hm j h2;have e:t.gates.getD j default = t.gates[j]:=getD_at h2;simp only [List.getElem_map,List.getElem_range];refine ⟨?_,?_,?_,?_⟩
   . show Value.string (Q2f t.gates j) = _; unfold Q2f; rw [e]
   . show Value.int .i64 (Q3e t.gates j) = _; unfold Q3e; rw [e]
   . show Q0f w (mg j) _; unfold Q0i at hmm; rw [e] at hmm; exact hmm
   . have:=hsh.1; unfold Q2f at this; rw [e] at this; exact this
 . obtain ⟨h1,h2,h3,h4⟩:=h
   exact ⟨by rw [<- hc 0 (by omega)]; exact h1,by rw [<- hc 1 (by omega)]; exact h2,by rw [<- hc 2 (by omega)]; exact h3,h4⟩
structure J0j (w w':World) (t:Tree) (vb vc vg:Value) (mc mg:Nat -> Value):Prop where
 bas:Q1d w' w.heap.size 48 2 Q8h vb t.basics
 cau:Q1d w' w.heap.size 50 3 enc3 vc ((List.range t.causes.length).map (cF t mc))
 gat:Q1d w' w.heap.size 97 3 enc3 vg ((List.range t.gates.length).map (gF t mg))
 mem:∀ i,i < t.causes.length -> Q0f w (mc i) (Q0e t.causes i)
 inp:∀ i,i < t.gates.length -> Q0f w (mg i) (Q0i t.gates i)
theorem X3t {α:Type} {w:World} {base base' k:Nat} {e:TypeId} {enc:α -> List Value} {v:Value} {l:List α} (h:Q1d w base e k enc v l) (hb:base' <= base):Q1d w base' e k enc v l:=by
 obtain ⟨h1,h2⟩:=h;refine ⟨h1,?_⟩
 rcases h2 with h2 | ⟨g,cap,cur,hv,hbg,r⟩
 . exact .inl h2
 . exact .inr ⟨g,cap,cur,hv,Nat.le_trans hb hbg,r⟩
theorem X9g {O:Nat} {a b c:World} (h:Off O a b) (hl:∀ n,n <= O -> Below n b c) (ho:∀ k,k ≠ O -> c.heap[k]? = b.heap[k]?):Off O a c :=
 ⟨h.1.trans (hl O (Nat.le_refl _)),Nat.le_trans h.2.1 (hl 0 (Nat.zero_le _)).size,fun k hk hne=>(ho k hne).trans (h.2.2 k hk hne)⟩
theorem Z4l (w:World) (v:Value) (t:Tree) (ht:IsTree w v t) (hnb:t.basics.length <= 1000) (hnc:t.causes.length <= 1000) (hng:t.gates.length <= 1000) :
    Calls Tryz.prog 16 #[v] w fun e w'=>∃ vb vc vg mc mg,e = .returned (.agg #[vb,vc,vg]) /\ J0j w w' t vb vc vg mc mg /\ Ext w w':=by
 obtain ⟨i0,hi,hz0,hz1,hz2⟩:=info_parts Tryz.Z2o;obtain ⟨j0,ji,jz0,jz1,jz2⟩:=info_parts Tryz.Y9p;obtain ⟨l0,li,lz0,lz1,lz2⟩:=info_parts Tryz.Z1c;obtain ⟨a,b,c,rfl,h3⟩:=ht;obtain ⟨A,capa,rfl,hl1,hcap1,_⟩:=h3.basics.opened;obtain ⟨B,capb,rfl,hl2,hcap2,_⟩:=h3.causes.opened;obtain ⟨G,capg,rfl,hl3,hcap3,_⟩:=h3.gates.opened;have HT0:=Lib.hid h3;clear h3;go_enter Tryz.func16,Tryz.ntmps16;go_wp2_with fail;change Code.wp _ _ _ _ (((w.alloc (.cells #[.slice A t.basics.length capa,.slice B t.causes.length capb,.slice G t.gates.length capg] 33)).alloc (.cells #[.slice none 0 0,.slice none 0 0,.slice none 0 0] 26)).alloc (.cells #[.slice none 0 0,.slice none 0 0,.slice none 0 0] 26));obtain ⟨W,hWW,k0,k1,k2,HXW,eW⟩:=X2v w 33 #[.slice A t.basics.length capa,.slice B t.causes.length capb,.slice G t.gates.length capg] 26 #[.slice none 0 0,.slice none 0 0,.slice none 0 0] 26 #[.slice none 0 0,.slice none 0 0,.slice none 0 0];rw [hWW];clear hWW;have HT:=Lib.hid (HT0.out.ext HXW.out);have K0:=Lib.hid k0;have R0:=Lib.hid k1;have O0:=Lib.hid k2;obtain ⟨O,hO⟩:∃ O,w.heap.size + 1 + 1 = O:=⟨_,rfl⟩;rw [hO] at O0 eW ⊢;have hwO:w.heap.size + 1 + 1 = O:=hO;clear k0 k1 k2 hO;go_wp2
 go_loopw [13] (fun i wr=>∃ (k:Nat) (xv:Value),k <= t.basics.length /\ i = .int .i64 k /\ Q1d wr (O + 1) 48 2 Q8h xv (t.basics.take k) /\ Blk wr O 26 #[xv,.slice none 0 0,.slice none 0 0] /\ Off O W wr) (fun i _=>t.basics.length - (intOf i).toNat)
 case atStart=>exact ⟨0,_,Nat.zero_le _,rfl,Q1d.nil _ _ _ _ _,O0.out,Off.refl _ _⟩
 case round =>
  obtain ⟨k,xv,hk,rfl,hown,hblk,hoff⟩:=hrel;have HOFF:=Lib.hid hoff;have hwrs:O + 1 <= wr.heap.size:=hblk.lt;have hbel:Below O W wr:=hoff.1
  by_cases hlt:k < t.basics.length
  . obtain ⟨_,_,he0,_,_,hcc⟩:=HT0.out.basics.opened
    cases he0;obtain ⟨b1,off,rfl,hb1,e0,e1,_⟩:=hcc k hlt;have hb1':b1 < O:=by omega
    replace e0:=(hbel.cell (p:=⟨b1,off + k * 2,none⟩) hb1').trans (HXW.out.cell e0);replace e1:=(hbel.cell (p:=⟨b1,off + k * 2 + 1,none⟩) hb1').trans (HXW.out.cell e1);obtain ⟨nm,hnm⟩:∃ x,bName t.basics k = x:=⟨_,rfl⟩;obtain ⟨ch,hch⟩:∃ x,Q1j t.basics k = x:=⟨_,rfl⟩;rw [hnm] at e0;rw [hch] at e1;have HNM:=Lib.hid hnm;have HCH:=Lib.hid hch;have hlen:(t.basics.take k).length = k:=by simp; omega
    obtain ⟨tk,htk⟩:∃ x,t.basics.take k = x:=⟨_,rfl⟩;rw [htk] at hown hlen;have HTKK:=Lib.hid htk;have xb:=Ext.box wr (.cells #[.string nm,.int .i64 ch] 103);have kb:=Blk.made wr 103 #[.string nm,.int .i64 ch];have hown2:=hown.below xb;have hblk2:=hblk.ext xb;have c0:=hblk2.cell 0;have hkI:(k:Int) < t.basics.length:=by omega
    have hs2:(wr.alloc (.cells #[.string nm,.int .i64 ch] 103)).heap.size = wr.heap.size + 1:=by simp
    simp only [Go.Tw.gA,Go.Tw.gB,Go.Tw.gC] at c0;have x3:=Ext.box (wr.alloc (.cells #[.string nm,.int .i64 ch] 103)) (.cells #[.string nm,.int .i64 ch] 48);have kb3:=Blk.made (wr.alloc (.cells #[.string nm,.int .i64 ch] 103)) 48 #[.string nm,.int .i64 ch];rw [hs2] at kb3;have hs3:O + 1 <= ((wr.alloc (.cells #[.string nm,.int .i64 ch] 103)).alloc (.cells #[.string nm,.int .i64 ch] 48)).heap.size:=by simp; omega
    obtain ⟨A9,c9,hbv,_⟩:=hown2.shape;rw [hlen] at hbv;have hown3:=hown2.below x3;unfold Q1d at hown3;rw [hlen] at hown3;have HB3X:=Lib.hid (hblk2.ext x3);have HKB:=Lib.hid kb3;have HOW:=Lib.hid hown3;have HS3:=Lib.hid hs3;have HXB:=Lib.hid (xb.trans x3);have HOF:=Lib.hid ((hoff.ext xb (by omega)).ext x3 (by rw [hs2]; omega))
    clear hcc hown hblk hnm hch htk hbel hown2 hblk2 kb3 hown3 hs3 xb x3 hs2 kb hoff;subst hbv;go_wp2_with (first | (at_builtin; go_must (refine wpList_append_own _ rfl _ _ 22 rfl (O + 1) 48 i0 (.agg #[.string emp,.int .i64 0]) 2 24 Tryz.underlying22 hi hz0 hz1 hz2 rfl (by decide) _ _ _ rfl HOW.out ⟨wr.heap.size + 1,0,none⟩ 1 1 [.string nm,.int .i64 ch] rfl rfl (Q5h HKB.out) ?_ ?_ ?_ HS3.out ?_; (focus (intro u hu; simp only [List.mem_cons,List.not_mem_nil,or_false] at hu; rcases hu with rfl | rfl <;> rfl)); (focus (unfold maxLen; omega)); (focus omega); intro v' w1 hown' hgrow _; refine halted ?_)))
    have HB4:=Lib.hid (Q3j HB3X.out HOW.out (by omega) hgrow)
    have HO4:Hid (Q1d w1 (O + 1) 48 2 Q8h v' (t.basics.take (k + 1))):=Lib.hid (by
     have h:=Q1d.snoc (enc:=Q8h) (x:=(⟨nm,ch⟩:Basic)) (l:=tk) (by rw [hlen]; exact hown')
     have e:t.basics.take (k + 1) = tk ++ [⟨nm,ch⟩]:=by rw [<- HTKK.out,<- HNM.out,<- HCH.out]; exact Y2c hlt
     rw [e]; exact h)
    have HOF4:=Lib.hid (HOF.out.grown HOW.out (by omega) (by omega) hgrow)
    have hsh:∃ A c,v' = .slice A (k + 1) c:=by
     obtain ⟨A,c,h,_⟩:=HO4.out.shape;exact ⟨A,c,by rw [h]; congr 1; simp; omega⟩
    obtain ⟨A8,c8,hv'⟩:=hsh;rw [hv'] at HO4 ⊢;clear hown' hgrow hv' c0 e0 e1;unfold Q3g;go_wp2_with (refine Q1n rfl _ _ 22 rfl Tryz.Y3j (g:=O) (k:=0) (u:=.slice A8 (k + 1) c8) rfl rfl rfl rfl HB4.out (by show 0 < 3; omega) ?_; intro w5 hb5 hl5 ho5; refine halted ?_)
    have HB5:=Lib.hid hb5;have HO5:=Lib.hid (HO4.out.only (by omega) ho5)
    have HOF5:=Lib.hid (X9g HOF4.out hl5 ho5);clear hb5 hl5 ho5;unfold Q3g;go_wp2;go_roundw
    case rel=>exact ⟨k + 1,_,by omega,by go_num,HO5.out,HB5.out,HOF5.out⟩
    case measure=>simp [intOf]; omega
  . have hkn:k = t.basics.length:=by omega
    subst hkn;rw [List.take_length] at hown;have HBV:=Lib.hid hown;have HB1:=Lib.hid hblk;have HBE1:=Lib.hid hbel;have kt:=K0.out.below hbel (by omega)
    have c1:=kt.cell 1;simp only [Go.Tw.gA,Go.Tw.gB,Go.Tw.gC] at c1;obtain ⟨W1,hW1⟩:∃ X,wr = X:=⟨_,rfl⟩;obtain ⟨bv,hbv⟩:∃ x,xv = x:=⟨_,rfl⟩;rw [hW1] at HBV HB1 HBE1 c1 hwrs ⊢;rw [hbv] at HBV HB1;clear hown hblk hbel hoff HOFF hW1 hbv kt;go_wp2;clear c1;obtain ⟨B2,hB2⟩:∃ B,W1.heap.size = B:=⟨_,rfl⟩;have hB2O:O < B2:=by omega
    go_loopw [27] (fun i wr=>∃ (k:Nat) (xv:Value) (mc:Nat -> Value),k <= t.causes.length /\ i = .int .i64 k /\ Q1d wr B2 50 3 enc3 xv ((List.range k).map (cF t mc)) /\ (∀ j,j < k -> Q0f w (mc j) (Q0e t.causes j)) /\ Blk wr O 26 #[bv,xv,.slice none 0 0] /\ Off O W1 wr) (fun i _=>t.causes.length - (intOf i).toNat)
    case atStart=>exact ⟨0,_,fun _=>undef,Nat.zero_le _,rfl,Q1d.nil _ _ _ _ _,fun j hj=>by omega,HB1.out,Off.refl _ _⟩
    case round =>
     obtain ⟨k,xv,mc,hk,rfl,hown,hmem,hblk,hoff⟩:=hrel;have HOFF:=Lib.hid hoff;have hwrs:O + 1 <= wr.heap.size:=hblk.lt;have hbel:Below O W wr:=HBE1.out.trans hoff.1;have HMEM:=Lib.hid hmem
     by_cases hlt:k < t.causes.length
     . obtain ⟨_,_,he0,_,_,hcc⟩:=HT0.out.causes.opened
       cases he0;obtain ⟨b1,off,mvv,rfl,hb1,e0,e1,e2,hM,_⟩:=hcc k hlt;have hb1':b1 < O:=by omega
       replace e0:=(hbel.cell (p:=⟨b1,off + k * 3,none⟩) hb1').trans (HXW.out.cell e0);replace e1:=(hbel.cell (p:=⟨b1,off + k * 3 + 1,none⟩) hb1').trans (HXW.out.cell e1);replace e2:=(hbel.cell (p:=⟨b1,off + k * 3 + 2,none⟩) hb1').trans (HXW.out.cell e2);obtain ⟨A3,cap3,rfl,_,_,_⟩:=hM.opened;have HM:=Lib.hid hM;obtain ⟨nm,hnm⟩:∃ x,cName t.causes k = x:=⟨_,rfl⟩;obtain ⟨ch,hch⟩:∃ x,Q1l t.causes k = x:=⟨_,rfl⟩;rw [hnm] at e0;rw [hch] at e1;have HNM:=Lib.hid hnm;have HCH:=Lib.hid hch;obtain ⟨n3,hn3⟩:∃ n,(Q0e t.causes k).length = n:=⟨_,rfl⟩;rw [hn3] at e2 HM;have hlen:((List.range k).map (cF t mc)).length = k:=by simp
       obtain ⟨tk,htk⟩:∃ x,(List.range k).map (cF t mc) = x:=⟨_,rfl⟩;rw [htk] at hown hlen;have HTKK:=Lib.hid htk;have xb:=Ext.box wr (.cells #[.string nm,.int .i64 ch,.slice A3 n3 cap3] 106);have kb:=Blk.made wr 106 #[.string nm,.int .i64 ch,.slice A3 n3 cap3];have hown2:=hown.below xb;have hblk2:=hblk.ext xb;have c0:=hblk2.cell 1;have hkI:(k:Int) < t.causes.length:=by omega
       have hs2:(wr.alloc (.cells #[.string nm,.int .i64 ch,.slice A3 n3 cap3] 106)).heap.size = wr.heap.size + 1:=by simp
       simp only [Go.Tw.gA,Go.Tw.gB,Go.Tw.gC] at c0;have x3:=Ext.box (wr.alloc (.cells #[.string nm,.int .i64 ch,.slice A3 n3 cap3] 106)) (.cells #[.string nm,.int .i64 ch,.slice A3 n3 cap3] 50);have kb3:=Blk.made (wr.alloc (.cells #[.string nm,.int .i64 ch,.slice A3 n3 cap3] 106)) 50 #[.string nm,.int .i64 ch,.slice A3 n3 cap3];rw [hs2] at kb3;have hbs:B2 <= wr.heap.size:=by have:=hoff.2.1; omega
       have hs3:B2 <= ((wr.alloc (.cells #[.string nm,.int .i64 ch,.slice A3 n3 cap3] 106)).alloc (.cells #[.string nm,.int .i64 ch,.slice A3 n3 cap3] 50)).heap.size:=by simp; omega
       obtain ⟨A9,c9,hbv,_⟩:=hown2.shape;rw [hlen] at hbv;have hown3:=hown2.below x3;unfold Q1d at hown3;rw [hlen] at hown3;have HB3X:=Lib.hid (hblk2.ext x3);have HKB:=Lib.hid kb3;have HOW:=Lib.hid hown3;have HS3:=Lib.hid hs3;have HXB:=Lib.hid (xb.trans x3);have HOF:=Lib.hid ((hoff.ext xb (by omega)).ext x3 (by rw [hs2]; omega))
       clear hcc hown hblk hnm hch htk hbel hown2 hblk2 kb3 hown3 hs3 xb x3 hs2 kb hoff hM hn3 hmem;subst hbv
       go_light
       go_wp2_with (first | (at_builtin; go_must (refine wpList_append_own _ rfl _ _ 23 rfl (B2) 50 j0 (.agg #[.string emp,.int .i64 0,.slice none 0 0]) 3 48 Tryz.underlying23 ji jz0 jz1 jz2 rfl (by decide) _ _ _ rfl HOW.out ⟨wr.heap.size + 1,0,none⟩ 1 1 [.string nm,.int .i64 ch,.slice A3 n3 cap3] rfl rfl (Q5h HKB.out) ?_ ?_ ?_ HS3.out ?_; (focus (intro u hu; simp only [List.mem_cons,List.not_mem_nil,or_false] at hu; rcases hu with rfl | rfl | rfl <;> rfl)); (focus (unfold maxLen; omega)); (focus omega); intro v' w1 hown' hgrow _; refine halted ?_)))
       have HB4:=Lib.hid (Q3j HB3X.out HOW.out (by omega) hgrow)
       have HO4:Hid (Q1d w1 B2 50 3 enc3 v' ((List.range (k + 1)).map (cF t fun j=>if j = k then .slice A3 n3 cap3 else mc j))):=Lib.hid (by
        have h:=Q1d.snoc (enc:=enc3) (x:=(nm,ch,Value.slice A3 n3 cap3)) (l:=tk) (by rw [hlen]; exact hown')
        rw [<- HTKK.out,Y9y HNM.out HCH.out] at h;exact h)
       have HOF4:=Lib.hid (HOF.out.grown HOW.out (by omega) (by omega) hgrow)
       have hsh:∃ A c,v' = .slice A (k + 1) c:=by
        obtain ⟨A,c,h,_⟩:=HO4.out.shape;exact ⟨A,c,by rw [h]; congr 1; simp⟩
       obtain ⟨A8,c8,hv'⟩:=hsh;rw [hv'] at HO4 ⊢;clear hown' hgrow hv' c0 e0 e1 e2;unfold Q3g;go_wp2_with (refine Q1n rfl _ _ 23 rfl Tryz.X2a (g:=O) (k:=1) (u:=.slice A8 (k + 1) c8) rfl rfl rfl rfl HB4.out (by show 1 < 3; omega) ?_; intro w5 hb5 hl5 ho5; refine halted ?_)
       have HB5:=Lib.hid hb5;have HO5:=Lib.hid (HO4.out.only (by omega) ho5)
       have HOF5:=Lib.hid (X9g HOF4.out hl5 ho5);clear hb5 hl5 ho5;unfold Q3g;go_wp2;go_roundw
       case rel=>exact ⟨k + 1,_,fun j=>if j = k then .slice A3 n3 cap3 else mc j,by omega,by go_num,HO5.out,(fun j hj=>by
           by_cases hjk:j = k
           . subst hjk; simp only [if_true]; exact HM.out
           . simp only [hjk,if_false]; exact HMEM.out j (by omega)),HB5.out,HOF5.out⟩
       case measure=>simp [intOf]; omega
     . have hkn:k = t.causes.length:=by omega
       subst hkn;have HCV:=Lib.hid hown;have HB2:=Lib.hid hblk;have HBE2:=Lib.hid hbel;have HBV2:=Lib.hid (HBV.out.off (by omega) hoff)
       have kt:=K0.out.below hbel (by omega)
       have c2:=kt.cell 2;simp only [Go.Tw.gA,Go.Tw.gB,Go.Tw.gC] at c2;obtain ⟨W2,hW2⟩:∃ X,wr = X:=⟨_,rfl⟩;rw [hW2] at HCV HB2 HBE2 HBV2 c2 hwrs ⊢;obtain ⟨cv,hcv⟩:∃ x,xv = x:=⟨_,rfl⟩;rw [hcv] at HCV HB2;clear hown hmem hblk hbel hoff HOFF hW2 kt hcv HBV HB1 HBE1;go_wp2;clear c2;obtain ⟨B3,hB3⟩:∃ B,W2.heap.size = B:=⟨_,rfl⟩;have hB3O:O < B3:=by omega
       have HMC:=Lib.hid HMEM.out;clear HMEM
       go_loopw [41] (fun i wr=>∃ (k:Nat) (xv:Value) (mg:Nat -> Value),k <= t.gates.length /\ i = .int .i64 k /\ Q1d wr B3 97 3 enc3 xv ((List.range k).map (gF t mg)) /\ (∀ j,j < k -> Q0f w (mg j) (Q0i t.gates j)) /\ Blk wr O 26 #[bv,cv,xv] /\ Off O W2 wr) (fun i _=>t.gates.length - (intOf i).toNat)
       case atStart=>exact ⟨0,_,fun _=>undef,Nat.zero_le _,rfl,Q1d.nil _ _ _ _ _,fun j hj=>by omega,HB2.out,Off.refl _ _⟩
       case round =>
        obtain ⟨k,xv,mg,hk,rfl,hown,hmem,hblk,hoff⟩:=hrel;have HOFF:=Lib.hid hoff;have hwrs:O + 1 <= wr.heap.size:=hblk.lt;have hbel:Below O W wr:=HBE2.out.trans hoff.1;have HMEM:=Lib.hid hmem
        by_cases hlt:k < t.gates.length
        . obtain ⟨_,_,he0,_,_,hcc⟩:=HT0.out.gates.opened
          cases he0;obtain ⟨b1,off,mvv,rfl,hb1,e0,e1,e2,hM,_⟩:=hcc k hlt;have hb1':b1 < O:=by omega
          replace e0:=(hbel.cell (p:=⟨b1,off + k * 3,none⟩) hb1').trans (HXW.out.cell e0);replace e1:=(hbel.cell (p:=⟨b1,off + k * 3 + 1,none⟩) hb1').trans (HXW.out.cell e1);replace e2:=(hbel.cell (p:=⟨b1,off + k * 3 + 2,none⟩) hb1').trans (HXW.out.cell e2);obtain ⟨A3,cap3,rfl,_,_,_⟩:=hM.opened;have HM:=Lib.hid hM;obtain ⟨nm,hnm⟩:∃ x,Q2f t.gates k = x:=⟨_,rfl⟩;obtain ⟨ch,hch⟩:∃ x,Q3e t.gates k = x:=⟨_,rfl⟩;rw [hnm] at e0;rw [hch] at e1;have HNM:=Lib.hid hnm;have HCH:=Lib.hid hch;obtain ⟨n3,hn3⟩:∃ n,(Q0i t.gates k).length = n:=⟨_,rfl⟩;rw [hn3] at e2 HM;have hlen:((List.range k).map (gF t mg)).length = k:=by simp
          obtain ⟨tk,htk⟩:∃ x,(List.range k).map (gF t mg) = x:=⟨_,rfl⟩;rw [htk] at hown hlen;have HTKK:=Lib.hid htk;have xb:=Ext.box wr (.cells #[.string nm,.int .i64 ch,.slice A3 n3 cap3] 114);have kb:=Blk.made wr 114 #[.string nm,.int .i64 ch,.slice A3 n3 cap3];have hown2:=hown.below xb;have hblk2:=hblk.ext xb;have c0:=hblk2.cell 2;have hkI:(k:Int) < t.gates.length:=by omega
          have hs2:(wr.alloc (.cells #[.string nm,.int .i64 ch,.slice A3 n3 cap3] 114)).heap.size = wr.heap.size + 1:=by simp
          simp only [Go.Tw.gA,Go.Tw.gB,Go.Tw.gC] at c0;have x3:=Ext.box (wr.alloc (.cells #[.string nm,.int .i64 ch,.slice A3 n3 cap3] 114)) (.cells #[.string nm,.int .i64 ch,.slice A3 n3 cap3] 97);have kb3:=Blk.made (wr.alloc (.cells #[.string nm,.int .i64 ch,.slice A3 n3 cap3] 114)) 97 #[.string nm,.int .i64 ch,.slice A3 n3 cap3];rw [hs2] at kb3;have hbs:B3 <= wr.heap.size:=by have:=hoff.2.1; omega
          have hs3:B3 <= ((wr.alloc (.cells #[.string nm,.int .i64 ch,.slice A3 n3 cap3] 114)).alloc (.cells #[.string nm,.int .i64 ch,.slice A3 n3 cap3] 97)).heap.size:=by simp; omega
          obtain ⟨A9,c9,hbv,_⟩:=hown2.shape;rw [hlen] at hbv;have hown3:=hown2.below x3;unfold Q1d at hown3;rw [hlen] at hown3;have HB3X:=Lib.hid (hblk2.ext x3);have HKB:=Lib.hid kb3;have HOW:=Lib.hid hown3;have HS3:=Lib.hid hs3;have HXB:=Lib.hid (xb.trans x3);have HOF:=Lib.hid ((hoff.ext xb (by omega)).ext x3 (by rw [hs2]; omega))
          clear hcc hown hblk hnm hch htk hbel hown2 hblk2 kb3 hown3 hs3 xb x3 hs2 kb hoff hM hn3 hmem;subst hbv
          go_light
          go_wp2_with (first | (at_builtin; go_must (refine wpList_append_own _ rfl _ _ 24 rfl (B3) 97 l0 (.agg #[.string emp,.int .i64 0,.slice none 0 0]) 3 48 Tryz.underlying24 li lz0 lz1 lz2 rfl (by decide) _ _ _ rfl HOW.out ⟨wr.heap.size + 1,0,none⟩ 1 1 [.string nm,.int .i64 ch,.slice A3 n3 cap3] rfl rfl (Q5h HKB.out) ?_ ?_ ?_ HS3.out ?_; (focus (intro u hu; simp only [List.mem_cons,List.not_mem_nil,or_false] at hu; rcases hu with rfl | rfl | rfl <;> rfl)); (focus (unfold maxLen; omega)); (focus omega); intro v' w1 hown' hgrow _; refine halted ?_)))
          have HB4:=Lib.hid (Q3j HB3X.out HOW.out (by omega) hgrow)
          have HO4:Hid (Q1d w1 B3 97 3 enc3 v' ((List.range (k + 1)).map (gF t fun j=>if j = k then .slice A3 n3 cap3 else mg j))):=Lib.hid (by
           have h:=Q1d.snoc (enc:=enc3) (x:=(nm,ch,Value.slice A3 n3 cap3)) (l:=tk) (by rw [hlen]; exact hown')
           rw [<- HTKK.out,Z2x HNM.out HCH.out] at h;exact h)
          have HOF4:=Lib.hid (HOF.out.grown HOW.out (by omega) (by omega) hgrow)
          have hsh:∃ A c,v' = .slice A (k + 1) c:=by
           obtain ⟨A,c,h,_⟩:=HO4.out.shape;exact ⟨A,c,by rw [h]; congr 1; simp⟩
          obtain ⟨A8,c8,hv'⟩:=hsh;rw [hv'] at HO4 ⊢;clear hown' hgrow hv' c0 e0 e1 e2;unfold Q3g;go_wp2_with (refine Q1n rfl _ _ 24 rfl Tryz.X3u (g:=O) (k:=2) (u:=.slice A8 (k + 1) c8) rfl rfl rfl rfl HB4.out (by show 2 < 3; omega) ?_; intro w5 hb5 hl5 ho5; refine halted ?_)
          have HB5:=Lib.hid hb5;have HO5:=Lib.hid (HO4.out.only (by omega) ho5)
          have HOF5:=Lib.hid (X9g HOF4.out hl5 ho5);clear hb5 hl5 ho5;unfold Q3g;go_wp2;go_roundw
          case rel=>exact ⟨k + 1,_,fun j=>if j = k then .slice A3 n3 cap3 else mg j,by omega,by go_num,HO5.out,(fun j hj=>by
              by_cases hjk:j = k
              . subst hjk; simp only [if_true]; exact HM.out
              . simp only [hjk,if_false]; exact HMEM.out j (by omega)),HB5.out,HOF5.out⟩
          case measure=>simp [intOf]; omega
        . have hkn:k = t.gates.length:=by omega
          subst hkn;have HOUT:=Lib.hid hblk;have HBVF:=Lib.hid (HBV2.out.off (by omega) hoff)
          have HCVF:=Lib.hid (HCV.out.off (by omega) hoff)
          have HGV:=Lib.hid hown;have hR:=R0.out.below hbel (by omega)
          have HBF:=Lib.hid hbel;clear hown hmem hoff HOFF hblk;go_wp2_with (first | (refine Q0j rfl _ _ rfl Tryz.Q2k Tryz.Q0x rfl HOUT.out rfl ?_) | (refine Q0d rfl _ _ 26 rfl Tryz.Q0x rfl rfl hR rfl rfl ?_ ?_; (focus (exact Q6a HBVF.out HCVF.out HGV.out)); intro w9 hb9 hl9 ho9))
          refine bodyPost_ret (Q4k Tryz.results16 rfl hb9 Tryz.Q2k Tryz.Q0x) rfl ?_;have hxf:Ext w w9:=Below.trans (Below.trans HXW.out (HBF.out.mono (B':=w.heap.size) (by omega))) (hl9 _ (by omega))
          exact ⟨_,_,_,_,_,rfl,⟨X3t (HBVF.out.only (g:=w.heap.size + 1) (by omega) ho9) (by omega),X3t (HCVF.out.only (g:=w.heap.size + 1) (by omega) ho9) (by omega),X3t (HGV.out.only (g:=w.heap.size + 1) (by omega) ho9) (by omega),fun i hi=>HMC.out i hi,fun i hi=>HMEM.out i hi⟩,hxf⟩
theorem Y6v (w:World) (v:Value) (t:Tree) (ht:IsTree w v t) (hnb:t.basics.length <= 1000) (hnc:t.causes.length <= 1000) (hng:t.gates.length <= 1000) :
    Calls Tryz.prog 16 #[v] w fun e w'=>∃ u,e = .returned u /\ IsTree w' u t /\ Ext w w':=by
 obtain ⟨a,b,c,rfl,h3⟩:=id ht;refine (Z4l w _ t ht hnb hnc hng).mono ?_;rintro e w' ⟨vb,vc,vg,mc,mg,rfl,h,hx⟩;exact ⟨_,rfl,⟨_,_,_,rfl,⟨X7b h.bas h3.basics,X6p h.cau h3.causes fun i hi=>(h.mem i hi).ext hx,X8x h.gat h3.gates fun i hi=>(h.inp i hi).ext hx⟩⟩,hx⟩
end Go.Proofs
