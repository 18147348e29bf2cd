/- Contract of the law's own function: told. Contract of the reference: copied. Contract: Tested. Contract of the reference: Without. Setting one event's chance: the weight with it sure is not less than with it out; the share of an event. Plain lists and sums. Minimal sets of a monotone property: each set that has it contains a minimal one, no minimal one contains another one; what this says about the cuts and paths of a tree. Plain law for FaultMonotone. Contract of the reference: Dual. -/
import Derived.Test.YtgopmebjbkdfgaaGreatDoorTx28
import Derived.Deep.DeepCutAuto
import Derived.Test.YtgopmebjbkdfgaaGreatDoorTx24
import Derived.Test.YtgopmebjbkdfgaaGreatDoorTx15
import Derived.Test.YtgopmebjbkdfgaaGreatDoorTx11
import Derived.Test.YtgopmebjbkdfgaaGreatDoorTx16
import Derived.Test.YtgopmebjbkdfgaaGreatDoorTx13
set_option maxRecDepth 1000000
set_option maxHeartbeats 64000000
set_option linter.unusedVariables false
set_option linter.unusedSimpArgs false
set_option linter.constructorNameAsVariable false
namespace Go.Proofs
open Go.RowKit Go.Tw Go.Flow
theorem Tryz.Z5f:(Tryz.prog.info? 48).map (fun i=>(i.zero,i.size,i.bytes)) = some (some (.agg #[.string emp,.int .i64 0]),2,24):=by kernel_rfl
theorem Tryz.Z5d:(Tryz.prog.info? 50).map (fun i=>(i.zero,i.size,i.bytes)) = some (some (.agg #[.string emp,.int .i64 0,.slice none 0 0]),3,48):=by kernel_rfl
theorem Tryz.Z5u:(Tryz.prog.info? 97).map (fun i=>(i.zero,i.size,i.bytes)) = some (some (.agg #[.string emp,.int .i64 0,.slice none 0 0]),3,48):=by kernel_rfl
theorem Tryz.X4s (w:World):(sizeOf 22).run Tryz.prog w = .ok 1 w:=by kernel_rfl
theorem Tryz.X4t (w:World):(sizeOf 23).run Tryz.prog w = .ok 1 w:=by kernel_rfl
theorem Tryz.X8f (w:World):(sizeOf 24).run Tryz.prog w = .ok 1 w:=by kernel_rfl
theorem X5e {w w':World} {base:Nat} {v a:Value} {t:Tree} (h:Q1o w base 48 2 X0z v t.basics) (hs:Q3m w' a t.basics):Q3m w v t.basics:=by
 obtain ⟨_,_,_,hl,_⟩:=hs.opened;refine h.rows hl Q9y (fun x hx=>?_) (fun c c' x hc h=>?_)
 . obtain ⟨k,hk,rfl⟩:=List.getElem_of_mem hx
   have:=hs.short hk;unfold bName at this;rw [getD_at hk] at this;exact ⟨rfl,rfl,this⟩
 . obtain ⟨h1,h2,h3⟩:=h
   exact ⟨by rw [<- hc 0 (by omega)]; exact h1,by rw [<- hc 1 (by omega)]; exact h2,h3⟩
theorem X5q {w w':World} {T:TypeId} {base:Nat} {v a:Value} {t:Tree} {mc:Nat -> Value} (h:Q1o w base T 3 enc3 v ((List.range t.causes.length).map (cF t mc))) (hs:Q3n w' a t.causes) (hm:∀ i,i < t.causes.length -> Q0e w (mc i) (Q0f t.causes i)):Q3n w v t.causes:=by
 obtain ⟨_,_,_,hl,_⟩:=hs.opened;refine h.rowsOf (by simp) hl Q0u (fun j h1 h2=>?_) (fun c c' x hc h=>?_)
 . have hsh:=hs.short h2
   have hmm:=hm j h2;have e:t.causes.getD j default = t.causes[j]:=getD_at h2;simp only [List.getElem_map,List.getElem_range];refine ⟨?_,?_,?_,?_⟩
   . show Value.string (cName t.causes j) = _; unfold cName; rw [e]
   . show Value.int .i64 (Q1k t.causes j) = _; unfold Q1k; rw [e]
   . show Q0e w (mc j) _; unfold Q0f at hmm; rw [e] at hmm; exact hmm
   . have:=hsh.1; unfold cName at this; rw [e] at this; exact this
 . obtain ⟨h1,h2,h3,h4⟩:=h
   exact ⟨by rw [<- hc 0 (by omega)]; exact h1,by rw [<- hc 1 (by omega)]; exact h2,by rw [<- hc 2 (by omega)]; exact h3,h4⟩
theorem X7n {w w':World} {T:TypeId} {base:Nat} {v a:Value} {t:Tree} {mg:Nat -> Value} (h:Q1o w base T 3 enc3 v ((List.range t.gates.length).map (gF t mg))) (hs:Q4b w' a t.gates) (hm:∀ i,i < t.gates.length -> Q0e w (mg i) (Q0m t.gates i)):Q4b w v t.gates:=by
 obtain ⟨_,_,_,hl,_⟩:=hs.opened;refine h.rowsOf (by simp) hl Q0u (fun j h1 h2=>?_) (fun c c' x hc h=>?_)
 . have hsh:=hs.short h2
   have hmm:=hm j h2;have e:t.gates.getD j default = t.gates[j]:=getD_at h2;simp only [List.getElem_map,List.getElem_range];refine ⟨?_,?_,?_,?_⟩
   . show Value.string (Q2f t.gates j) = _; unfold Q2f; rw [e]
   . show Value.int .i64 (Q3e t.gates j) = _; unfold Q3e; rw [e]
   . show Q0e w (mg j) _; unfold Q0m at hmm; rw [e] at hmm; exact hmm
   . have:=hsh.1; unfold Q2f at this; rw [e] at this; exact this
 . obtain ⟨h1,h2,h3,h4⟩:=h
   exact ⟨by rw [<- hc 0 (by omega)]; exact h1,by rw [<- hc 1 (by omega)]; exact h2,by rw [<- hc 2 (by omega)]; exact h3,h4⟩
structure Z9r (w w':World) (t:Tree) (vb vc vg:Value) (mc mg:Nat -> Value):Prop where
 bas:Q1o w' w.heap.size 48 2 X0z vb t.basics
 cau:Q1o w' w.heap.size 50 3 enc3 vc ((List.range t.causes.length).map (cF t mc))
 gat:Q1o w' w.heap.size 97 3 enc3 vg ((List.range t.gates.length).map (gF t mg))
 mem:∀ i,i < t.causes.length -> Q0e w (mc i) (Q0f t.causes i)
 inp:∀ i,i < t.gates.length -> Q0e w (mg i) (Q0m t.gates i)
theorem X2v {α:Type} {w:World} {base base' k:Nat} {e:TypeId} {enc:α -> List Value} {v:Value} {l:List α} (h:Q1o w base e k enc v l) (hb:base' <= base):Q1o w base' e k enc v l:=by
 obtain ⟨h1,h2⟩:=h;refine ⟨h1,?_⟩
 rcases h2 with h2 | ⟨g,cap,cur,hv,hbg,r⟩
 . exact .inl h2
 . exact .inr ⟨g,cap,cur,hv,Nat.le_trans hb hbg,r⟩
theorem Q8f {O:Nat} {a b c:World} (h:Off O a b) (hl:∀ n,n <= O -> Below n b c) (ho:∀ k,k ≠ O -> c.heap[k]? = b.heap[k]?):Off O a c :=
 ⟨h.1.trans (hl O (Nat.le_refl _)),Nat.le_trans h.2.1 (hl 0 (Nat.zero_le _)).size,fun k hk hne=>(ho k hne).trans (h.2.2 k hk hne)⟩
theorem Z3u (w:World) (v:Value) (t:Tree) (ht:IsTree w v t) (hnb:t.basics.length <= 1000) (hnc:t.causes.length <= 1000) (hng:t.gates.length <= 1000) :
    Calls Tryz.prog 16 #[v] w fun e w'=>∃ vb vc vg mc mg,e = .returned (.agg #[vb,vc,vg]) /\ Z9r w w' t vb vc vg mc mg /\ Ext w w':=by
 obtain ⟨i0,hi,hz0,hz1,hz2⟩:=info_parts Tryz.Z5f;obtain ⟨j0,ji,jz0,jz1,jz2⟩:=info_parts Tryz.Z5d;obtain ⟨l0,li,lz0,lz1,lz2⟩:=info_parts Tryz.Z5u;obtain ⟨a,b,c,rfl,h3⟩:=ht;obtain ⟨A,capa,rfl,hl1,hcap1,_⟩:=h3.basics.opened;obtain ⟨B,capb,rfl,hl2,hcap2,_⟩:=h3.causes.opened;obtain ⟨G,capg,rfl,hl3,hcap3,_⟩:=h3.gates.opened;have HT0:=Lib.hid h3;clear h3;go_enter Tryz.func16,Tryz.ntmps16;go_wp2_with fail;change Code.wp _ _ _ _ (((w.alloc (.cells #[.slice A t.basics.length capa,.slice B t.causes.length capb,.slice G t.gates.length capg] 33)).alloc (.cells #[.slice none 0 0,.slice none 0 0,.slice none 0 0] 26)).alloc (.cells #[.slice none 0 0,.slice none 0 0,.slice none 0 0] 26));obtain ⟨W,hWW,k0,k1,k2,HXW,eW⟩:=X8e w 33 #[.slice A t.basics.length capa,.slice B t.causes.length capb,.slice G t.gates.length capg] 26 #[.slice none 0 0,.slice none 0 0,.slice none 0 0] 26 #[.slice none 0 0,.slice none 0 0,.slice none 0 0];rw [hWW];clear hWW;have HT:=Lib.hid (HT0.out.ext HXW.out);have K0:=Lib.hid k0;have R0:=Lib.hid k1;have O0:=Lib.hid k2;obtain ⟨O,hO⟩:∃ O,w.heap.size + 1 + 1 = O:=⟨_,rfl⟩;rw [hO] at O0 eW ⊢;have hwO:w.heap.size + 1 + 1 = O:=hO;clear k0 k1 k2 hO;go_wp2
 go_loopw [13] (fun i wr=>∃ (k:Nat) (xv:Value),k <= t.basics.length /\ i = .int .i64 k /\ Q1o wr (O + 1) 48 2 X0z xv (t.basics.take k) /\ Blk wr O 26 #[xv,.slice none 0 0,.slice none 0 0] /\ Off O W wr) (fun i _=>t.basics.length - (intOf i).toNat)
 case atStart=>exact ⟨0,_,Nat.zero_le _,rfl,Q1o.nil _ _ _ _ _,O0.out,Off.refl _ _⟩
 case round =>
  obtain ⟨k,xv,hk,rfl,hown,hblk,hoff⟩:=hrel;have HOFF:=Lib.hid hoff;have hwrs:O + 1 <= wr.heap.size:=hblk.lt;have hbel:Below O W wr:=hoff.1
  by_cases hlt:k < t.basics.length
  . obtain ⟨_,_,he0,_,_,hcc⟩:=HT0.out.basics.opened
    cases he0;obtain ⟨b1,off,rfl,hb1,e0,e1,_⟩:=hcc k hlt;have hb1':b1 < O:=by omega
    replace e0:=(hbel.cell (p:=⟨b1,off + k * 2,none⟩) hb1').trans (HXW.out.cell e0);replace e1:=(hbel.cell (p:=⟨b1,off + k * 2 + 1,none⟩) hb1').trans (HXW.out.cell e1);obtain ⟨nm,hnm⟩:∃ x,bName t.basics k = x:=⟨_,rfl⟩;obtain ⟨ch,hch⟩:∃ x,Q1b t.basics k = x:=⟨_,rfl⟩;rw [hnm] at e0;rw [hch] at e1;have HNM:=Lib.hid hnm;have HCH:=Lib.hid hch;have hlen:(t.basics.take k).length = k:=by simp; omega
    obtain ⟨tk,htk⟩:∃ x,t.basics.take k = x:=⟨_,rfl⟩;rw [htk] at hown hlen;have HTKK:=Lib.hid htk;have xb:=Ext.box wr (.cells #[.string nm,.int .i64 ch] 103);have kb:=Blk.made wr 103 #[.string nm,.int .i64 ch];have hown2:=hown.below xb;have hblk2:=hblk.ext xb;have c0:=hblk2.cell 0;have hkI:(k:Int) < t.basics.length:=by omega
    have hs2:(wr.alloc (.cells #[.string nm,.int .i64 ch] 103)).heap.size = wr.heap.size + 1:=by simp
    simp only [Go.Tw.gA,Go.Tw.gB,Go.Tw.gC] at c0;have x3:=Ext.box (wr.alloc (.cells #[.string nm,.int .i64 ch] 103)) (.cells #[.string nm,.int .i64 ch] 48);have kb3:=Blk.made (wr.alloc (.cells #[.string nm,.int .i64 ch] 103)) 48 #[.string nm,.int .i64 ch];rw [hs2] at kb3;have hs3:O + 1 <= ((wr.alloc (.cells #[.string nm,.int .i64 ch] 103)).alloc (.cells #[.string nm,.int .i64 ch] 48)).heap.size:=by simp; omega
    obtain ⟨A9,c9,hbv,_⟩:=hown2.shape;rw [hlen] at hbv;have hown3:=hown2.below x3;unfold Q1o at hown3;rw [hlen] at hown3;have HB3X:=Lib.hid (hblk2.ext x3);have HKB:=Lib.hid kb3;have HOW:=Lib.hid hown3;have HS3:=Lib.hid hs3;have HXB:=Lib.hid (xb.trans x3);have HOF:=Lib.hid ((hoff.ext xb (by omega)).ext x3 (by rw [hs2]; omega))
    clear hcc hown hblk hnm hch htk hbel hown2 hblk2 kb3 hown3 hs3 xb x3 hs2 kb hoff;subst hbv;go_wp2_with (first | (at_builtin; go_must (refine wpList_append_own _ rfl _ _ 22 rfl (O + 1) 48 i0 (.agg #[.string emp,.int .i64 0]) 2 24 Tryz.underlying22 hi hz0 hz1 hz2 rfl (by decide) _ _ _ rfl HOW.out ⟨wr.heap.size + 1,0,none⟩ 1 1 [.string nm,.int .i64 ch] rfl rfl (Q4s HKB.out) ?_ ?_ ?_ HS3.out ?_; (focus (intro u hu; simp only [List.mem_cons,List.not_mem_nil,or_false] at hu; rcases hu with rfl | rfl <;> rfl)); (focus (unfold maxLen; omega)); (focus omega); intro v' w1 hown' hgrow _; refine halted ?_)))
    have HB4:=Lib.hid (Q4z HB3X.out HOW.out (by omega) hgrow)
    have HO4:Hid (Q1o w1 (O + 1) 48 2 X0z v' (t.basics.take (k + 1))):=Lib.hid (by
     have h:=Q1o.snoc (enc:=X0z) (x:=(⟨nm,ch⟩:Basic)) (l:=tk) (by rw [hlen]; exact hown')
     have e:t.basics.take (k + 1) = tk ++ [⟨nm,ch⟩]:=by rw [<- HTKK.out,<- HNM.out,<- HCH.out]; exact Y1a hlt
     rw [e]; exact h)
    have HOF4:=Lib.hid (HOF.out.grown HOW.out (by omega) (by omega) hgrow)
    have hsh:∃ A c,v' = .slice A (k + 1) c:=by
     obtain ⟨A,c,h,_⟩:=HO4.out.shape;exact ⟨A,c,by rw [h]; congr 1; simp; omega⟩
    obtain ⟨A8,c8,hv'⟩:=hsh;rw [hv'] at HO4 ⊢;clear hown' hgrow hv' c0 e0 e1;unfold Q2t;go_wp2_with (refine Q0o rfl _ _ 22 rfl Tryz.X4s (g:=O) (k:=0) (u:=.slice A8 (k + 1) c8) rfl rfl rfl rfl HB4.out (by show 0 < 3; omega) ?_; intro w5 hb5 hl5 ho5; refine halted ?_)
    have HB5:=Lib.hid hb5;have HO5:=Lib.hid (HO4.out.only (by omega) ho5)
    have HOF5:=Lib.hid (Q8f HOF4.out hl5 ho5);clear hb5 hl5 ho5;unfold Q2t;go_wp2;go_roundw
    case rel=>exact ⟨k + 1,_,by omega,by go_num,HO5.out,HB5.out,HOF5.out⟩
    case measure=>simp [intOf]; omega
  . have hkn:k = t.basics.length:=by omega
    subst hkn;rw [List.take_length] at hown;have HBV:=Lib.hid hown;have HB1:=Lib.hid hblk;have HBE1:=Lib.hid hbel;have kt:=K0.out.below hbel (by omega)
    have c1:=kt.cell 1;simp only [Go.Tw.gA,Go.Tw.gB,Go.Tw.gC] at c1;obtain ⟨W1,hW1⟩:∃ X,wr = X:=⟨_,rfl⟩;obtain ⟨bv,hbv⟩:∃ x,xv = x:=⟨_,rfl⟩;rw [hW1] at HBV HB1 HBE1 c1 hwrs ⊢;rw [hbv] at HBV HB1;clear hown hblk hbel hoff HOFF hW1 hbv kt;go_wp2;clear c1;obtain ⟨B2,hB2⟩:∃ B,W1.heap.size = B:=⟨_,rfl⟩;have hB2O:O < B2:=by omega
    go_loopw [27] (fun i wr=>∃ (k:Nat) (xv:Value) (mc:Nat -> Value),k <= t.causes.length /\ i = .int .i64 k /\ Q1o wr B2 50 3 enc3 xv ((List.range k).map (cF t mc)) /\ (∀ j,j < k -> Q0e w (mc j) (Q0f t.causes j)) /\ Blk wr O 26 #[bv,xv,.slice none 0 0] /\ Off O W1 wr) (fun i _=>t.causes.length - (intOf i).toNat)
    case atStart=>exact ⟨0,_,fun _=>undef,Nat.zero_le _,rfl,Q1o.nil _ _ _ _ _,fun j hj=>by omega,HB1.out,Off.refl _ _⟩
    case round =>
     obtain ⟨k,xv,mc,hk,rfl,hown,hmem,hblk,hoff⟩:=hrel;have HOFF:=Lib.hid hoff;have hwrs:O + 1 <= wr.heap.size:=hblk.lt;have hbel:Below O W wr:=HBE1.out.trans hoff.1;have HMEM:=Lib.hid hmem
     by_cases hlt:k < t.causes.length
     . obtain ⟨_,_,he0,_,_,hcc⟩:=HT0.out.causes.opened
       cases he0;obtain ⟨b1,off,mvv,rfl,hb1,e0,e1,e2,hM,_⟩:=hcc k hlt;have hb1':b1 < O:=by omega
       replace e0:=(hbel.cell (p:=⟨b1,off + k * 3,none⟩) hb1').trans (HXW.out.cell e0);replace e1:=(hbel.cell (p:=⟨b1,off + k * 3 + 1,none⟩) hb1').trans (HXW.out.cell e1);replace e2:=(hbel.cell (p:=⟨b1,off + k * 3 + 2,none⟩) hb1').trans (HXW.out.cell e2);obtain ⟨A3,cap3,rfl,_,_,_⟩:=hM.opened;have HM:=Lib.hid hM;obtain ⟨nm,hnm⟩:∃ x,cName t.causes k = x:=⟨_,rfl⟩;obtain ⟨ch,hch⟩:∃ x,Q1k t.causes k = x:=⟨_,rfl⟩;rw [hnm] at e0;rw [hch] at e1;have HNM:=Lib.hid hnm;have HCH:=Lib.hid hch;obtain ⟨n3,hn3⟩:∃ n,(Q0f t.causes k).length = n:=⟨_,rfl⟩;rw [hn3] at e2 HM;have hlen:((List.range k).map (cF t mc)).length = k:=by simp
       obtain ⟨tk,htk⟩:∃ x,(List.range k).map (cF t mc) = x:=⟨_,rfl⟩;rw [htk] at hown hlen;have HTKK:=Lib.hid htk;have xb:=Ext.box wr (.cells #[.string nm,.int .i64 ch,.slice A3 n3 cap3] 106);have kb:=Blk.made wr 106 #[.string nm,.int .i64 ch,.slice A3 n3 cap3];have hown2:=hown.below xb;have hblk2:=hblk.ext xb;have c0:=hblk2.cell 1;have hkI:(k:Int) < t.causes.length:=by omega
       have hs2:(wr.alloc (.cells #[.string nm,.int .i64 ch,.slice A3 n3 cap3] 106)).heap.size = wr.heap.size + 1:=by simp
       simp only [Go.Tw.gA,Go.Tw.gB,Go.Tw.gC] at c0;have x3:=Ext.box (wr.alloc (.cells #[.string nm,.int .i64 ch,.slice A3 n3 cap3] 106)) (.cells #[.string nm,.int .i64 ch,.slice A3 n3 cap3] 50);have kb3:=Blk.made (wr.alloc (.cells #[.string nm,.int .i64 ch,.slice A3 n3 cap3] 106)) 50 #[.string nm,.int .i64 ch,.slice A3 n3 cap3];rw [hs2] at kb3;have hbs:B2 <= wr.heap.size:=by have:=hoff.2.1; omega
       have hs3:B2 <= ((wr.alloc (.cells #[.string nm,.int .i64 ch,.slice A3 n3 cap3] 106)).alloc (.cells #[.string nm,.int .i64 ch,.slice A3 n3 cap3] 50)).heap.size:=by simp; omega
       obtain ⟨A9,c9,hbv,_⟩:=hown2.shape;rw [hlen] at hbv;have hown3:=hown2.below x3;unfold Q1o at hown3;rw [hlen] at hown3;have HB3X:=Lib.hid (hblk2.ext x3);have HKB:=Lib.hid kb3;have HOW:=Lib.hid hown3;have HS3:=Lib.hid hs3;have HXB:=Lib.hid (xb.trans x3);have HOF:=Lib.hid ((hoff.ext xb (by omega)).ext x3 (by rw [hs2]; omega))
       clear hcc hown hblk hnm hch htk hbel hown2 hblk2 kb3 hown3 hs3 xb x3 hs2 kb hoff hM hn3 hmem;subst hbv
       go_light
       go_wp2_with (first | (at_builtin; go_must (refine wpList_append_own _ rfl _ _ 23 rfl (B2) 50 j0 (.agg #[.string emp,.int .i64 0,.slice none 0 0]) 3 48 Tryz.underlying23 ji jz0 jz1 jz2 rfl (by decide) _ _ _ rfl HOW.out ⟨wr.heap.size + 1,0,none⟩ 1 1 [.string nm,.int .i64 ch,.slice A3 n3 cap3] rfl rfl (Q4s HKB.out) ?_ ?_ ?_ HS3.out ?_; (focus (intro u hu; simp only [List.mem_cons,List.not_mem_nil,or_false] at hu; rcases hu with rfl | rfl | rfl <;> rfl)); (focus (unfold maxLen; omega)); (focus omega); intro v' w1 hown' hgrow _; refine halted ?_)))
       have HB4:=Lib.hid (Q4z HB3X.out HOW.out (by omega) hgrow)
       have HO4:Hid (Q1o w1 B2 50 3 enc3 v' ((List.range (k + 1)).map (cF t fun j=>if j = k then .slice A3 n3 cap3 else mc j))):=Lib.hid (by
        have h:=Q1o.snoc (enc:=enc3) (x:=(nm,ch,Value.slice A3 n3 cap3)) (l:=tk) (by rw [hlen]; exact hown')
        rw [<- HTKK.out,Z5o HNM.out HCH.out] at h;exact h)
       have HOF4:=Lib.hid (HOF.out.grown HOW.out (by omega) (by omega) hgrow)
       have hsh:∃ A c,v' = .slice A (k + 1) c:=by
        obtain ⟨A,c,h,_⟩:=HO4.out.shape;exact ⟨A,c,by rw [h]; congr 1; simp⟩
       obtain ⟨A8,c8,hv'⟩:=hsh;rw [hv'] at HO4 ⊢;clear hown' hgrow hv' c0 e0 e1 e2;unfold Q2t;go_wp2_with (refine Q0o rfl _ _ 23 rfl Tryz.X4t (g:=O) (k:=1) (u:=.slice A8 (k + 1) c8) rfl rfl rfl rfl HB4.out (by show 1 < 3; omega) ?_; intro w5 hb5 hl5 ho5; refine halted ?_)
       have HB5:=Lib.hid hb5;have HO5:=Lib.hid (HO4.out.only (by omega) ho5)
       have HOF5:=Lib.hid (Q8f HOF4.out hl5 ho5);clear hb5 hl5 ho5;unfold Q2t;go_wp2;go_roundw
       case rel=>exact ⟨k + 1,_,fun j=>if j = k then .slice A3 n3 cap3 else mc j,by omega,by go_num,HO5.out,(fun j hj=>by
           by_cases hjk:j = k
           . subst hjk; simp only [if_true]; exact HM.out
           . simp only [hjk,if_false]; exact HMEM.out j (by omega)),HB5.out,HOF5.out⟩
       case measure=>simp [intOf]; omega
     . have hkn:k = t.causes.length:=by omega
       subst hkn;have HCV:=Lib.hid hown;have HB2:=Lib.hid hblk;have HBE2:=Lib.hid hbel;have HBV2:=Lib.hid (HBV.out.off (by omega) hoff)
       have kt:=K0.out.below hbel (by omega)
       have c2:=kt.cell 2;simp only [Go.Tw.gA,Go.Tw.gB,Go.Tw.gC] at c2;obtain ⟨W2,hW2⟩:∃ X,wr = X:=⟨_,rfl⟩;rw [hW2] at HCV HB2 HBE2 HBV2 c2 hwrs ⊢;obtain ⟨cv,hcv⟩:∃ x,xv = x:=⟨_,rfl⟩;rw [hcv] at HCV HB2;clear hown hmem hblk hbel hoff HOFF hW2 kt hcv HBV HB1 HBE1;go_wp2;clear c2;obtain ⟨B3,hB3⟩:∃ B,W2.heap.size = B:=⟨_,rfl⟩;have hB3O:O < B3:=by omega
       have HMC:=Lib.hid HMEM.out;clear HMEM
       go_loopw [41] (fun i wr=>∃ (k:Nat) (xv:Value) (mg:Nat -> Value),k <= t.gates.length /\ i = .int .i64 k /\ Q1o wr B3 97 3 enc3 xv ((List.range k).map (gF t mg)) /\ (∀ j,j < k -> Q0e w (mg j) (Q0m t.gates j)) /\ Blk wr O 26 #[bv,cv,xv] /\ Off O W2 wr) (fun i _=>t.gates.length - (intOf i).toNat)
       case atStart=>exact ⟨0,_,fun _=>undef,Nat.zero_le _,rfl,Q1o.nil _ _ _ _ _,fun j hj=>by omega,HB2.out,Off.refl _ _⟩
       case round =>
        obtain ⟨k,xv,mg,hk,rfl,hown,hmem,hblk,hoff⟩:=hrel;have HOFF:=Lib.hid hoff;have hwrs:O + 1 <= wr.heap.size:=hblk.lt;have hbel:Below O W wr:=HBE2.out.trans hoff.1;have HMEM:=Lib.hid hmem
        by_cases hlt:k < t.gates.length
        . obtain ⟨_,_,he0,_,_,hcc⟩:=HT0.out.gates.opened
          cases he0;obtain ⟨b1,off,mvv,rfl,hb1,e0,e1,e2,hM,_⟩:=hcc k hlt;have hb1':b1 < O:=by omega
          replace e0:=(hbel.cell (p:=⟨b1,off + k * 3,none⟩) hb1').trans (HXW.out.cell e0);replace e1:=(hbel.cell (p:=⟨b1,off + k * 3 + 1,none⟩) hb1').trans (HXW.out.cell e1);replace e2:=(hbel.cell (p:=⟨b1,off + k * 3 + 2,none⟩) hb1').trans (HXW.out.cell e2);obtain ⟨A3,cap3,rfl,_,_,_⟩:=hM.opened;have HM:=Lib.hid hM;obtain ⟨nm,hnm⟩:∃ x,Q2f t.gates k = x:=⟨_,rfl⟩;obtain ⟨ch,hch⟩:∃ x,Q3e t.gates k = x:=⟨_,rfl⟩;rw [hnm] at e0;rw [hch] at e1;have HNM:=Lib.hid hnm;have HCH:=Lib.hid hch;obtain ⟨n3,hn3⟩:∃ n,(Q0m t.gates k).length = n:=⟨_,rfl⟩;rw [hn3] at e2 HM;have hlen:((List.range k).map (gF t mg)).length = k:=by simp
          obtain ⟨tk,htk⟩:∃ x,(List.range k).map (gF t mg) = x:=⟨_,rfl⟩;rw [htk] at hown hlen;have HTKK:=Lib.hid htk;have xb:=Ext.box wr (.cells #[.string nm,.int .i64 ch,.slice A3 n3 cap3] 114);have kb:=Blk.made wr 114 #[.string nm,.int .i64 ch,.slice A3 n3 cap3];have hown2:=hown.below xb;have hblk2:=hblk.ext xb;have c0:=hblk2.cell 2;have hkI:(k:Int) < t.gates.length:=by omega
          have hs2:(wr.alloc (.cells #[.string nm,.int .i64 ch,.slice A3 n3 cap3] 114)).heap.size = wr.heap.size + 1:=by simp
          simp only [Go.Tw.gA,Go.Tw.gB,Go.Tw.gC] at c0;have x3:=Ext.box (wr.alloc (.cells #[.string nm,.int .i64 ch,.slice A3 n3 cap3] 114)) (.cells #[.string nm,.int .i64 ch,.slice A3 n3 cap3] 97);have kb3:=Blk.made (wr.alloc (.cells #[.string nm,.int .i64 ch,.slice A3 n3 cap3] 114)) 97 #[.string nm,.int .i64 ch,.slice A3 n3 cap3];rw [hs2] at kb3;have hbs:B3 <= wr.heap.size:=by have:=hoff.2.1; omega
          have hs3:B3 <= ((wr.alloc (.cells #[.string nm,.int .i64 ch,.slice A3 n3 cap3] 114)).alloc (.cells #[.string nm,.int .i64 ch,.slice A3 n3 cap3] 97)).heap.size:=by simp; omega
          obtain ⟨A9,c9,hbv,_⟩:=hown2.shape;rw [hlen] at hbv;have hown3:=hown2.below x3;unfold Q1o at hown3;rw [hlen] at hown3;have HB3X:=Lib.hid (hblk2.ext x3);have HKB:=Lib.hid kb3;have HOW:=Lib.hid hown3;have HS3:=Lib.hid hs3;have HXB:=Lib.hid (xb.trans x3);have HOF:=Lib.hid ((hoff.ext xb (by omega)).ext x3 (by rw [hs2]; omega))
          clear hcc hown hblk hnm hch htk hbel hown2 hblk2 kb3 hown3 hs3 xb x3 hs2 kb hoff hM hn3 hmem;subst hbv
          go_light
          go_wp2_with (first | (at_builtin; go_must (refine wpList_append_own _ rfl _ _ 24 rfl (B3) 97 l0 (.agg #[.string emp,.int .i64 0,.slice none 0 0]) 3 48 Tryz.underlying24 li lz0 lz1 lz2 rfl (by decide) _ _ _ rfl HOW.out ⟨wr.heap.size + 1,0,none⟩ 1 1 [.string nm,.int .i64 ch,.slice A3 n3 cap3] rfl rfl (Q4s HKB.out) ?_ ?_ ?_ HS3.out ?_; (focus (intro u hu; simp only [List.mem_cons,List.not_mem_nil,or_false] at hu; rcases hu with rfl | rfl | rfl <;> rfl)); (focus (unfold maxLen; omega)); (focus omega); intro v' w1 hown' hgrow _; refine halted ?_)))
          have HB4:=Lib.hid (Q4z HB3X.out HOW.out (by omega) hgrow)
          have HO4:Hid (Q1o w1 B3 97 3 enc3 v' ((List.range (k + 1)).map (gF t fun j=>if j = k then .slice A3 n3 cap3 else mg j))):=Lib.hid (by
           have h:=Q1o.snoc (enc:=enc3) (x:=(nm,ch,Value.slice A3 n3 cap3)) (l:=tk) (by rw [hlen]; exact hown')
           rw [<- HTKK.out,Z5i HNM.out HCH.out] at h;exact h)
          have HOF4:=Lib.hid (HOF.out.grown HOW.out (by omega) (by omega) hgrow)
          have hsh:∃ A c,v' = .slice A (k + 1) c:=by
           obtain ⟨A,c,h,_⟩:=HO4.out.shape;exact ⟨A,c,by rw [h]; congr 1; simp⟩
          obtain ⟨A8,c8,hv'⟩:=hsh;rw [hv'] at HO4 ⊢;clear hown' hgrow hv' c0 e0 e1 e2;unfold Q2t;go_wp2_with (refine Q0o rfl _ _ 24 rfl Tryz.X8f (g:=O) (k:=2) (u:=.slice A8 (k + 1) c8) rfl rfl rfl rfl HB4.out (by show 2 < 3; omega) ?_; intro w5 hb5 hl5 ho5; refine halted ?_)
          have HB5:=Lib.hid hb5;have HO5:=Lib.hid (HO4.out.only (by omega) ho5)
          have HOF5:=Lib.hid (Q8f HOF4.out hl5 ho5);clear hb5 hl5 ho5;unfold Q2t;go_wp2;go_roundw
          case rel=>exact ⟨k + 1,_,fun j=>if j = k then .slice A3 n3 cap3 else mg j,by omega,by go_num,HO5.out,(fun j hj=>by
              by_cases hjk:j = k
              . subst hjk; simp only [if_true]; exact HM.out
              . simp only [hjk,if_false]; exact HMEM.out j (by omega)),HB5.out,HOF5.out⟩
          case measure=>simp [intOf]; omega
        . have hkn:k = t.gates.length:=by omega
          subst hkn;have HOUT:=Lib.hid hblk;have HBVF:=Lib.hid (HBV2.out.off (by omega) hoff)
          have HCVF:=Lib.hid (HCV.out.off (by omega) hoff)
          have HGV:=Lib.hid hown;have hR:=R0.out.below hbel (by omega)
          have HBF:=Lib.hid hbel;clear hown hmem hoff HOFF hblk;go_wp2_with (first | (refine Q0i rfl _ _ rfl Tryz.Q2s Tryz.Q0x rfl HOUT.out rfl ?_) | (refine Q0c rfl _ _ 26 rfl Tryz.Q0x rfl rfl hR rfl rfl ?_ ?_; (focus (exact X1u HBVF.out HCVF.out HGV.out)); intro w9 hb9 hl9 ho9))
          refine bodyPost_ret (Q4u Tryz.results16 rfl hb9 Tryz.Q2s Tryz.Q0x) rfl ?_;have hxf:Ext w w9:=Below.trans (Below.trans HXW.out (HBF.out.mono (B':=w.heap.size) (by omega))) (hl9 _ (by omega))
          exact ⟨_,_,_,_,_,rfl,⟨X2v (HBVF.out.only (g:=w.heap.size + 1) (by omega) ho9) (by omega),X2v (HCVF.out.only (g:=w.heap.size + 1) (by omega) ho9) (by omega),X2v (HGV.out.only (g:=w.heap.size + 1) (by omega) ho9) (by omega),fun i hi=>HMC.out i hi,fun i hi=>HMEM.out i hi⟩,hxf⟩
theorem Y5z (w:World) (v:Value) (t:Tree) (ht:IsTree w v t) (hnb:t.basics.length <= 1000) (hnc:t.causes.length <= 1000) (hng:t.gates.length <= 1000) :
    Calls Tryz.prog 16 #[v] w fun e w'=>∃ u,e = .returned u /\ IsTree w' u t /\ Ext w w':=by
 obtain ⟨a,b,c,rfl,h3⟩:=id ht;refine (Z3u w _ t ht hnb hnc hng).mono ?_;rintro e w' ⟨vb,vc,vg,mc,mg,rfl,h,hx⟩;exact ⟨_,rfl,⟨_,_,_,rfl,⟨X5e h.bas h3.basics,X5q h.cau h3.causes fun i hi=>(h.mem i hi).ext hx,X7n h.gat h3.gates fun i hi=>(h.inp i hi).ext hx⟩⟩,hx⟩
end Go.Proofs
namespace Go.Proofs
open Go.RowKit Go.Tw Go.Flow
theorem X3u (w:World) (s:ByteArray) (c:Int) (b:Option Addr) (n cp:Nat):(Instr.build 50 #[(0,.string s),(1,.int .i64 c),(2,.slice b n cp)]).run Tryz.prog w = .ok (.agg #[.string s,.int .i64 c,.slice b n cp]) w:=by kernel_rfl
theorem X5b (w:World) (s:ByteArray) (c:Int) (b:Option Addr) (n cp:Nat):(Instr.build 97 #[(0,.string s),(1,.int .i64 c),(2,.slice b n cp)]).run Tryz.prog w = .ok (.agg #[.string s,.int .i64 c,.slice b n cp]) w:=by kernel_rfl
theorem X8t (w:World) (s:ByteArray) (c:Int) (b:Option Addr) (n cp:Nat):(Instr.buildSlice 23 1 #[(0,.agg #[.string s,.int .i64 c,.slice b n cp])]).run Tryz.prog w = .ok (.slice (some ⟨w.heap.size,0,none⟩) 1 1) (w.alloc (.cells #[.string s,.int .i64 c,.slice b n cp] 50)):=by kernel_rfl
theorem Y0i (w:World) (s:ByteArray) (c:Int) (b:Option Addr) (n cp:Nat):(Instr.buildSlice 24 1 #[(0,.agg #[.string s,.int .i64 c,.slice b n cp])]).run Tryz.prog w = .ok (.slice (some ⟨w.heap.size,0,none⟩) 1 1) (w.alloc (.cells #[.string s,.int .i64 c,.slice b n cp] 97)):=by kernel_rfl
structure Z5r (w:World) (base:Nat) (t:Tree) (vb vc vg:Value) (mc mg:Nat -> Value):Prop where
 bas:Q1o w base 48 2 X0z vb t.basics
 cau:Q1o w base 50 3 enc3 vc ((List.range t.causes.length).map (cF t mc))
 gat:Q1o w base 97 3 enc3 vg ((List.range t.gates.length).map (gF t mg))
 mem:∀ i,i < t.causes.length -> Q0s w 0 3 (.int .i64) (mc i) (Q0f t.causes i)
 inp:∀ i,i < t.gates.length -> Q0s w 0 3 (.int .i64) (mg i) (Q0m t.gates i)
theorem Z5r.ext {w w':World} {base:Nat} {t:Tree} {vb vc vg:Value} {mc mg:Nat -> Value} (h:Z5r w base t vb vc vg mc mg) (hx:Ext w w'):Z5r w' base t vb vc vg mc mg :=
 ⟨h.bas.below hx,h.cau.below hx,h.gat.below hx,fun i hi=>(h.mem i hi).below hx,fun i hi=>(h.inp i hi).below hx⟩
theorem Z5r.tree {w w0:World} {base:Nat} {t:Tree} {a b c vb vc vg:Value} {mc mg:Nat -> Value} (h:Z5r w base t vb vc vg mc mg) (ht:Q5t w0 a b c t):Q5t w vb vc vg t :=
 ⟨X5e h.bas ht.basics,X5q h.cau ht.causes fun i hi=>(h.mem i hi).ints (ht.causes.short hi).2,X7n h.gat ht.gates fun i hi=>(h.inp i hi).ints (ht.gates.short hi).2⟩
theorem X5h {α:Type} {w:World} {base base' k:Nat} {e:TypeId} {enc:α -> List Value} {v:Value} {l:List α} (h:Q1o w base e k enc v l) (hb:base' <= base):Q1o w base' e k enc v l:=by
 obtain ⟨h1,h2⟩:=h;refine ⟨h1,?_⟩
 rcases h2 with h2 | ⟨g,cap,cur,hv,hbg,r⟩
 . exact .inl h2
 . exact .inr ⟨g,cap,cur,hv,Nat.le_trans hb hbg,r⟩
theorem Y4h {w:World} {base b:Nat} {v:Value} {l:List Int} (h:Q0s w base 3 (.int .i64) v l) (hb:v.ownBlock = some b):base <= b /\ b < w.heap.size:=by
 obtain ⟨_,h2⟩:=h
 rcases h2 with ⟨rfl,_⟩ | ⟨g,cap,cur,rfl,hbg,hgl,_⟩
 . cases hb
 . cases hb
   exact ⟨hbg,(Array.getElem?_eq_some_iff.1 hgl).1⟩
def Apart (u v:Value):Prop:=∀ b,u.ownBlock = some b -> v.ownBlock ≠ some b
def Fam (B n:Nat) (m:Nat -> Value):Prop:=(∀ i,i < n -> ∀ b,(m i).ownBlock = some b -> B <= b) /\ ∀ i j,i < j -> j < n -> Apart (m i) (m j)
theorem Fam.nil (B:Nat) (m:Nat -> Value):Fam B 0 m:=⟨fun _ h=>absurd h (Nat.not_lt_zero _),fun _ _ _ h=>absurd h (Nat.not_lt_zero _)⟩
theorem Fam.weaken {B B' n:Nat} {m:Nat -> Value} (h:Fam B n m) (hb:B' <= B):Fam B' n m:=⟨fun i hi b hi2=>Nat.le_trans hb (h.1 i hi b hi2),h.2⟩
theorem Fam.snoc {w w':World} {B k:Nat} {m:Nat -> Value} {v:Value} {L:Nat -> List Int} {l:List Int} (h:Fam B k m) (hm:∀ j,j < k -> Q0s w 0 3 (.int .i64) (m j) (L j)) (hv:Q0s w' w.heap.size 3 (.int .i64) v l) (hB:B <= w.heap.size) :
    Fam B (k + 1) (fun j=>if j = k then v else m j):=by
 refine ⟨fun i hi b hb=>?_,fun i j hij hj b h1 h2=>?_⟩
 . replace hb:(if i = k then v else m i).ownBlock = some b:=hb
   by_cases e:i = k
   . rw [if_pos e] at hb
     exact Nat.le_trans hB (Y4h hv hb).1
   . rw [if_neg e] at hb
     exact h.1 i (by omega) b hb
 . replace h1:(if i = k then v else m i).ownBlock = some b:=h1
   replace h2:(if j = k then v else m j).ownBlock = some b:=h2
   have ei:¬ i = k:=by omega
   rw [if_neg ei] at h1
   by_cases e:j = k
   . rw [if_pos e] at h2
     have:=(Y4h hv h2).1;have:=(Y4h (hm i (by omega)) h1).2
     omega
   . rw [if_neg e] at h2
     exact h.2 i j hij (by omega) b h1 h2
end Go.Proofs
namespace Go.Proofs
open Go.RowKit Go.Tw Go.Flow
def cT (t:Tree) (mc:Nat -> Value) (k:Nat) (c:Int) (i:Nat):ByteArray × Int × Value:=if i = k then (cName t.causes k,c,mc k) else cF t mc i
end Go.Proofs
namespace Go.Tw
open Go.RowKit Go.Flow
theorem X6t {α:Type} {P:Program} {K:Value -> World -> Prop} {o:Oper} {a:Act} {w:World} (s x:Operand) (t:TypeId) (ho:o.op = .call { callee:=.builtin .append,args:=#[s,x],argTypes:=#[t,t] })
    (base:Nat) (e:TypeId) (i:TypeInfo) (z:Value) (k bytes:Nat) (ht:P.underlying t = some (.slice e)) (hi:P.info? e = some i) (hz:i.zero = some z) (hsize:i.size = k) (hby:i.bytes = bytes) (hzs:z.cells.size = k) (hk0:0 < k)
    (enc:α -> List Value) (hk:∀ x,(enc x).length = k) (v:Value) (xs ys:List α) (hs:a.eval s = v) (hown:Q1o w base e k enc v xs) (A:Option Addr) (c:Nat) (hx:a.eval x = .slice A ys.length c)
    (hA:0 < ys.length -> ∃ ad,A = some ad /\ ∀ j u,(ys.flatMap enc)[j]? = some u -> w.cell? (ad.add j) = some u) (h1:∀ u ∈ ys.flatMap enc,u.oneCell' = true)
    (h63:xs.length + ys.length <= 100000) (hb:bytes <= 1000) (hbase:base <= w.heap.size)
    (h:∀ v' w',Q1o w' base e k enc v' (xs ++ ys) -> w.grownBy w' v.ownBlock -> K v' w'):gives P K ((execOp a.eval o).run P w):=by
 rcases Nat.eq_zero_or_pos ys.length with h0 | h0
 . have e0:ys = []:=List.eq_nil_of_length_eq_zero h0
   subst e0;obtain ⟨b,c',rfl,hcap⟩:=hown.shape;unfold execOp;simp only [ho,resolve,invoke,builtin,Sem.run_bind,Sem.run_pure,Result.andThen_ok,List.map_toArray,List.map_cons,List.map_nil,hs,hx];rw [List.length_nil,Q9g (P:=P) w t o.type e i ht hi b A xs.length c' c hcap];exact h _ _ (by simpa using hown) ⟨rfl,rfl,rfl,Nat.le_refl _,fun _ _ _=>rfl⟩
 . obtain ⟨ad,rfl,hnews⟩:=hA h0
   have hbytes:(xs.length + ys.length) * bytes <= 140737488355328:=by
    have:(xs.length + ys.length) * bytes <= 100000 * 1000:=Nat.mul_le_mul h63 hb;omega
   obtain ⟨v',w',hr,h2,h3,h4⟩:=run_append_own (P:=P) w base t o.type e i z k bytes ht hi hz hsize hby hzs hk0 v xs.length (xs.flatMap enc) hown ad ys.length c (ys.flatMap enc) (Q9q hk ys) hnews h1 (by unfold maxLen; omega) hbytes hbase
   unfold execOp;simp only [ho,resolve,invoke,builtin,Sem.run_bind,Sem.run_pure,Result.andThen_ok,List.map_toArray,List.map_cons,List.map_nil,hs,hx,hr];refine h v' w' ?_ h3;unfold Q1o;rw [List.length_append,List.flatMap_append];exact h2
end Go.Tw
namespace Go.Proofs
open Go.RowKit Go.Tw Go.Flow
end Go.Proofs
namespace Go.Proofs
open Go.Tw
def LeB (l m:List Bool):Prop:=l.length = m.length /\ ∀ i,bx l i = true -> bx m i = true
theorem LeB.failing {l m:List Bool} (h:LeB l m) (inputs:List Int):failing l inputs <= failing m inputs:=by
 unfold Tw.failing;exact List.countP_mono_left fun x _ hx=>h.2 _ hx
end Go.Proofs
namespace Go.Proofs
open Go.Tw
def Z5t (a b:Nat):Prop:=∀ i,a.testBit i = true -> b.testBit i = true
theorem Z5t.refl (a:Nat):Z5t a a:=fun _ h=>h
theorem Z5t.trans {a b c:Nat} (h:Z5t a b) (k:Z5t b c):Z5t a c:=fun i hi=>k i (h i hi)
theorem Z5t.clear (a b:Nat):Z5t (Q2m a b) a:=fun i hi=>by rw [Q4i,Bool.and_eq_true] at hi; exact hi.1
end Go.Proofs
namespace Go.Proofs
open Go.RowKit Go.Tw Go.Flow
def part {α:Type} (f:α -> α) (l:List α) (k:Nat):List α:=(l.take k).map f ++ l.drop k
end Go.Proofs
