/- Contract of the reference: Tested. -/
import Derived.Test.YtmaejccjimkbiaaGreatDoorFx48
import Derived.Test.YtmaejccjimkbiaaGreatDoorFx46
set_option linter.unusedVariables false
set_option linter.unusedSimpArgs false
set_option linter.constructorNameAsVariable false
namespace Go.Proofs
open Go.RowKit Go.Tw Go.Flow
theorem Y3n {α:Type} {enc:α → List Value} {k:Nat} (hk:∀ x,(enc x).length = k) {x:Value} {y:α}:∀ (l:List α) (i j:Nat) (hi:i < l.length),j < k → enc y = (enc l[i]).set j x → (l.flatMap enc).set (i * k + j) x = (l.set i y).flatMap enc
 | a :: l,0,j,_,hj,he=>by
   rw [List.set_cons_zero,List.flatMap_cons,List.flatMap_cons,he,Nat.zero_mul,Nat.zero_add,List.set_append_left _ _ (by rw [hk]; exact hj)]
   rfl
 | a :: l,i + 1,j,hi,hj,he=>by
   have ih:=Y3n hk l i j (by simpa using hi) hj (by simpa using he)
   rw [List.set_cons_succ,List.flatMap_cons,List.flatMap_cons,← ih,List.set_append_right _ _ (by rw [hk,Nat.add_mul]; omega)]
   congr 2
   rw [hk,Nat.add_mul];omega
theorem Q6p {α:Type} {w:World} {base k:Nat} {e:TypeId} {enc:α → List Value} {v:Value} {l:List α} (h:Q1z w base e k enc v l) (h0:0 < l.length) :
    ∃ g cap cur,v = .slice (some ⟨g,0,none⟩) l.length cap ∧ base ≤ g ∧ Blk w g e cur ∧ l.length ≤ cap ∧ cap ≤ maxLen ∧ cur.size = cap * k ∧ cur.toList.take (l.length * k) = l.flatMap enc:=by
 rcases h.2 with ⟨_,hn⟩ | ⟨g,cap,cur,hv,hb,hg,hc,hm,hs,ht⟩
 · omega
 · exact ⟨g,cap,cur,hv,hb,hg,hc,hm,hs,ht⟩
theorem X3x {α:Type} {w':World} {base k g cap:Nat} {e:TypeId} {enc:α → List Value} {cur:Array Value} {l:List α} {i j:Nat} {x:Value} {y:α} (hk:∀ x,(enc x).length = k) (hb:base ≤ g) (hc:l.length ≤ cap) (hm:cap ≤ maxLen) (hs:cur.size = cap * k) (ht:cur.toList.take (l.length * k) = l.flatMap enc)
    (hi:i < l.length) (hj:j < k) (he:enc y = (enc l[i]).set j x) (hw:Blk w' g e (cur.setIfInBounds (i * k + j) x)):Q1z w' base e k enc (.slice (some ⟨g,0,none⟩) l.length cap) (l.set i y):=by
 refine ⟨by rw [Q4r hk],.inr ⟨g,cap,_,by rw [List.length_set],hb,hw,by rw [List.length_set]; exact hc,hm,by simpa using hs,?_⟩⟩
 rw [List.length_set,Array.toList_setIfInBounds,List.take_set,ht,Y3n hk l i j hi hj he]
theorem X1p {α:Type} {w:World} {g k:Nat} {e:TypeId} {enc:α → List Value} {cur:Array Value} {l:List α} (hk:∀ x,(enc x).length = k) (hb:Blk w g e cur) (ht:cur.toList.take (l.length * k) = l.flatMap enc) {i j:Nat} (hi:i < l.length) (hj:j < k):w.cell? ⟨g,i * k + j,none⟩ = (enc l[i])[j]?:=by
 rw [hb.cell,← flat_get hk l i j hi hj,← ht,List.getElem?_take,if_pos,Array.getElem?_toList];have:(i + 1) * k ≤ l.length * k:=Nat.mul_le_mul_right k hi;rw [Nat.add_mul] at this;omega
theorem X4o {w:World} {base:Nat} {v:Value} {l:List Basic} (h:Q1z w base 80 2 X3j v l) (hl:l.length ≤ 17592186043904) (hsh:∀ i,i < l.length → Short (bName l i)):Q3k w v l:=by
 refine h.rows hl Q6i (fun x hx=>?_) (fun c c' x hc h=>?_)
 · obtain ⟨k,hk,rfl⟩:=List.getElem_of_mem hx
   have:=hsh k hk;unfold bName at this;rw [getD_at hk] at this;exact ⟨rfl,rfl,this⟩
 · obtain ⟨h1,h2,h3⟩:=h
   exact ⟨by rw [← hc 0 (by omega)]; exact h1,by rw [← hc 1 (by omega)]; exact h2,h3⟩
theorem X5b {w:World} {base:Nat} {v:Value} {l:List X0o} {mc:Nat → Value} (h:Q1z w base 82 3 enc3 v ((List.range l.length).map fun i=>(cName l i,Q1d l i,mc i))) (hl:l.length ≤ 17592186043904) (hsh:∀ i,i < l.length → Short (cName l i)) (hm:∀ i,i < l.length → Q0f w (mc i) (Q0c l i)):Q3w w v l:=by
 refine h.rowsOf (by simp) hl Q0s (fun j h1 h2=>?_) (fun c c' x hc h=>?_)
 · have hmm:=hm j h2
   have e:l.getD j default = l[j]:=getD_at h2;simp only [List.getElem_map,List.getElem_range];refine ⟨?_,?_,?_,?_⟩
   · show Value.string (cName l j) = _; unfold cName; rw [e]
   · show Value.int .i64 (Q1d l j) = _; unfold Q1d; rw [e]
   · show Q0f w (mc j) _; unfold Q0c at hmm; rw [e] at hmm; exact hmm
   · have:=hsh j h2; unfold cName at this; rw [e] at this; exact this
 · obtain ⟨h1,h2,h3,h4⟩:=h
   exact ⟨by rw [← hc 0 (by omega)]; exact h1,by rw [← hc 1 (by omega)]; exact h2,by rw [← hc 2 (by omega)]; exact h3,h4⟩
theorem Q2i {α:Type} {w w':World} {base k g:Nat} {e S:TypeId} {enc:α → List Value} {v:Value} {l:List α} {cs:Array Value} (h:Q1z w base e k enc v l) (hb:Blk w g S cs) (hT:S ≠ e) (ho:∀ k,k ≠ g → w'.heap[k]? = w.heap[k]?):Q1z w' base e k enc v l:=by
 obtain ⟨h1,h2⟩:=h;refine ⟨h1,?_⟩
 rcases h2 with h2 | ⟨g',cap,cur,hv,hbb,hgl,r⟩
 · exact .inl h2
 · refine .inr ⟨g',cap,cur,hv,hbb,?_,r⟩
   rw [ho g' ?_]; exact hgl;rintro rfl;unfold Blk at hb;rw [hb] at hgl;injection hgl with hgl;injection hgl with _ h3 _;exact hT h3
set_option maxRecDepth 100000 in
set_option maxHeartbeats 4000000 in
theorem Y3l (w:World) (v:Value) (t:Tree) (kn:Nat) (c:Int) (ht:IsTree w v t) (he:t.err = 0) (hkn:kn < t.basics.length + t.causes.length) (hf:Few t) :
    Calls Tryz.prog 42 #[v,.int .i64 kn,.int .i64 c] w fun e w'=>∃ vb vc vg mc mg,e = .returned (.agg #[vb,vc,vg]) ∧ Y6w w' 0 (Q3c t kn c) vb vc vg mc mg ∧ Q6u w' vb vc vg (Q3c t kn c) ∧ Ext w w':=by
 obtain ⟨a,b,c,rfl,h3⟩:=ht;obtain ⟨A,capa,rfl,hl1,hcap1,_⟩:=h3.basics.opened;obtain ⟨B,capb,rfl,hl2,hcap2,_⟩:=h3.causes.opened;obtain ⟨G,capg,rfl,hl3,hcap3,_⟩:=h3.gates.opened;have HT0:=Lib.hid h3;clear h3;have HV:=Lib.hid (Valid.of he);have hfit:=HV.out.fit;have HF:=Lib.hid hf;clear hf he;go_enter Tryz.func42,Tryz.ntmps42;go_wp2_with fail;change Calls _ _ _ ((w.alloc (.cells #[.slice A t.basics.length capa,.slice B t.causes.length capb,.slice G t.gates.length capg] 26)).alloc (.cells #[.slice none 0 0,.slice none 0 0,.slice none 0 0] 26)) _;have k0:=Blk.made w 26 #[.slice A t.basics.length capa,.slice B t.causes.length capb,.slice G t.gates.length capg];have x0:=Ext.box w (.cells #[.slice A t.basics.length capa,.slice B t.causes.length capb,.slice G t.gates.length capg] 26);have es0:(w.alloc (.cells #[.slice A t.basics.length capa,.slice B t.causes.length capb,.slice G t.gates.length capg] 26)).heap.size = w.heap.size + 1:=by simp
 obtain ⟨X0,hX0⟩:∃ X,w.alloc (.cells #[.slice A t.basics.length capa,.slice B t.causes.length capb,.slice G t.gates.length capg] 26) = X:=⟨_,rfl⟩;rw [hX0] at k0 x0 es0 ⊢;clear hX0;have k1:=Blk.made X0 26 #[.slice none 0 0,.slice none 0 0,.slice none 0 0];have x1:=Ext.box X0 (.cells #[.slice none 0 0,.slice none 0 0,.slice none 0 0] 26);have es1:(X0.alloc (.cells #[.slice none 0 0,.slice none 0 0,.slice none 0 0] 26)).heap.size = X0.heap.size + 1:=by simp
 obtain ⟨X1,hX1⟩:∃ X,X0.alloc (.cells #[.slice none 0 0,.slice none 0 0,.slice none 0 0] 26) = X:=⟨_,rfl⟩;rw [hX1] at k1 x1 es1 ⊢;clear hX1;replace k0:=k0.ext x1;have e0:X0.heap.size = w.heap.size + 1:=by omega
 have e1:X1.heap.size = w.heap.size + 1 + 1:=by omega
 rw [e0] at k1;have HXW:Hid (Ext w X1):=by exact (Ext.trans (x0) x1:Ext w X1)
 have eW:X1.heap.size = w.heap.size + 1 + 1:=e1;clear x0 es0 e0 x1 es1 e1;obtain ⟨W,hWW⟩:∃ W,X1 = W:=⟨_,rfl⟩;rw [hWW] at HXW eW ⊢ k0 k1;clear hWW;have HT:=Lib.hid (HT0.out.ext HXW.out);refine (X0n _ _ t ⟨_,_,_,rfl,HT.out⟩ HF.out HV.out.nb).mono ?_;rintro e w1 ⟨vb,vc,vg,mc,mg,rfl,hown,hx1⟩;have hWs:w.heap.size ≤ W.heap.size:=HXW.out.size;have HX1:=Lib.hid (HXW.out.trans hx1);have HR:=Lib.hid (k1.ext hx1);have K0:=Lib.hid (k0.ext hx1);replace HT:=Lib.hid (HT.out.ext hx1);have HOWN:=Lib.hid hown;clear k0 k1 hx1;obtain ⟨sb,cb,hsb,_⟩:=hown.bas.shape;obtain ⟨sc,cc,hsc,_⟩:=hown.cau.shape;obtain ⟨sg,cg,hsg,_⟩:=hown.gat.shape;simp only [List.length_map,List.length_range] at hsc hsg;subst hsb hsc hsg;clear hown;have hxb:=Ext.box w1 (.cells #[.slice sb t.basics.length cb,.slice sc t.causes.length cc,.slice sg t.gates.length cg] 26);have c0:=(K0.out.ext hxb).cell 0;simp only [List.getElem?_toArray,List.getElem?_cons_zero] at c0;go_upto_region 2 with fail;have HB:=Lib.hid (Blk.made w1 26 #[.slice sb t.basics.length cb,.slice sc t.causes.length cc,.slice sg t.gates.length cg]);replace HX1:=Lib.hid (HX1.out.trans hxb);replace HR:=Lib.hid (HR.out.ext hxb);replace HT:=Lib.hid (HT.out.ext hxb);replace HOWN:=Lib.hid (HOWN.out.ext hxb);obtain ⟨W1,hW1⟩:∃ X,w1.alloc (.cells #[.slice sb t.basics.length cb,.slice sc t.causes.length cc,.slice sg t.gates.length cg] 26) = X:=⟨_,rfl⟩;rw [hW1] at HX1 HR HT HOWN HB c0 ⊢;clear hW1 hxb K0;have d0:=HB.out.cell 0;have d1:=HB.out.cell 1;simp only [List.getElem?_toArray,List.getElem?_cons_zero,List.getElem?_cons_succ] at d0 d1
 by_cases hlt:kn < t.basics.length
 · have hkI:(kn:Int) < t.basics.length:=by omega
   obtain ⟨g,cap,cur,hv,hb,hblk,hc,hm,hs,htk⟩:=Q6p HOWN.out.bas (by omega)
   injection hv with hv1 hvl hv2;clear hvl;subst hv1 hv2;have HBLK:=Lib.hid hblk;have hin:kn * 2 + 1 < cur.size:=by rw [hs]; omega
   clear hblk;go_wp2_with (refine Q1b rfl _ _ 3 rfl Tryz.X9b (u:=.int .i64 c) (g:=g) (k:=kn * 2 + 1) rfl rfl rfl rfl HBLK.out hin ?_; intro w6 hb6 hl6 ho6; refine halted ?_);have HBB:=Lib.hid (X3x (y:=(⟨bName t.basics kn,c⟩:Basic)) Q6i hb hc hm hs htk hlt (by decide:1 < 2) (by unfold bName; rw [getD_at hlt]; rfl) hb6)
   have HBC:=Lib.hid (Q2i HOWN.out.cau HBLK.out (by decide) ho6)
   have HBG:=Lib.hid (Q2i HOWN.out.gat HBLK.out (by decide) ho6)
   have HM:Hid (∀ i,i < t.causes.length → Q0q w6 0 3 (.int .i64) (mc i) (Q0c t.causes i)):=by exact (fun i hi=>Q1m (HOWN.out.mem i hi) HBLK.out (by decide) ho6:∀ i,i < t.causes.length → Q0q w6 0 3 (.int .i64) (mc i) (Q0c t.causes i))
   have HI:Hid (∀ i,i < t.gates.length → Q0q w6 0 3 (.int .i64) (mg i) (Q0l t.gates i)):=by exact (fun i hi=>Q1m (HOWN.out.inp i hi) HBLK.out (by decide) ho6:∀ i,i < t.gates.length → Q0q w6 0 3 (.int .i64) (mg i) (Q0l t.gates i))
   have HB6:=Lib.hid (HB.out.only (Q1i HB.out HBLK.out (by decide)) ho6)
   have HR6:=Lib.hid (HR.out.only (Q1i HR.out HBLK.out (by decide)) ho6)
   have HX6:Hid (Ext w w6):=by exact (Below.trans HX1.out (hl6 w.heap.size (by omega)):Ext w w6)
   have HTO:Hid (Q3c t kn c = ⟨t.basics.set kn ⟨bName t.basics kn,c⟩,t.causes,t.gates⟩):=by exact (by unfold Q3c; rw [if_pos hlt]:Q3c t kn c = _)
   have hgb:w.heap.size + 1 < g:=by omega
   clear hb6 hl6 ho6 c0 d0 d1 htk;unfold Q3f;go_wp2_with (first | (refine Q0j rfl _ 26 rfl Tryz.Q2g Tryz.Q0x rfl HB6.out rfl ?_) | (refine Q0d rfl _ _ 26 rfl Tryz.Q0x rfl rfl HR6.out rfl rfl ?_ ?_; (focus (intro u hu; simp only [List.mem_cons,List.not_mem_nil,or_false] at hu; rcases hu with rfl | rfl | rfl <;> rfl)); intro w8 hb8 hl8 ho8))
   have f1:=Q2i HBB.out HR6.out (by decide) ho8
   have f2:=Q2i HBC.out HR6.out (by decide) ho8
   have f3:=Q2i HBG.out HR6.out (by decide) ho8
   have HM8:∀ i,i < t.causes.length → Q0f w8 (mc i) (Q0c t.causes i):=fun i hi=>(Q1m (HM.out i hi) HR6.out (by decide) ho8).ints (HT.out.causes.short hi).2
   have HI8:∀ i,i < t.gates.length → Q0f w8 (mg i) (Q0l t.gates i):=fun i hi=>(Q1m (HI.out i hi) HR6.out (by decide) ho8).ints (HT.out.gates.short hi).2
   refine bodyPost_ret (Q3h Tryz.results42 rfl hb8 Tryz.Q2g Tryz.Q0x) rfl ?_;have hm8:∀ i,i < t.causes.length → Q0q w8 0 3 (.int .i64) (mc i) (Q0c t.causes i):=fun i hi=>Q1m (HM.out i hi) HR6.out (by decide) ho8
   have hi8:∀ i,i < t.gates.length → Q0q w8 0 3 (.int .i64) (mg i) (Q0l t.gates i):=fun i hi=>Q1m (HI.out i hi) HR6.out (by decide) ho8
   rw [HTO.out];refine ⟨_,_,_,mc,mg,rfl,⟨Q2k f1 (Nat.zero_le _),Q2k f2 (Nat.zero_le _),Q2k f3 (Nat.zero_le _),hm8,hi8⟩,⟨?_,?_,?_⟩,Below.trans HX6.out (hl8 _ (by omega))⟩
   · refine X4o f1 (by rw [List.length_set]; have:=hfit.nb; omega) fun i hi=>?_
     rw [List.length_set] at hi;unfold bName;rw [Q6y _ _ _ _ hi]
     by_cases h:i = kn
     · subst h; rw [if_pos rfl]; exact HT.out.basics.short hi
     · rw [if_neg h]; exact HT.out.basics.short hi
   · exact Q8l f2 HT.out.causes HM8
   · exact Q8c f3 HT.out.gates HI8
 · obtain ⟨m,hkm⟩:∃ m,kn = t.basics.length + m:=⟨kn - t.basics.length,by omega⟩
   have hm':m < t.causes.length:=by omega
   have hnI:¬ (kn:Int) < t.basics.length:=by omega
   have hwr:IntKind.i64.wrap ((kn:Int) - (t.basics.length:Int)) = (m:Int):=by rw [wrap_in (by omega) (by omega)]; omega
   have hmI:(m:Int) < t.causes.length:=by omega
   obtain ⟨g,cap,cur,hv,hb,hblk,hc,hm,hs,htk⟩:=Q6p HOWN.out.cau (by simp; omega)
   injection hv with hv1 hvl hv2;clear hvl;subst hv1 hv2;rw [List.length_map,List.length_range] at hc;have HBLK:=Lib.hid hblk;have hin:m * 3 + 1 < cur.size:=by rw [hs]; omega
   clear hblk;have HKM:=Lib.hid hkm;have HMM:=Lib.hid hm';clear hkm;go_wp2_with (refine Q1b rfl _ _ 3 rfl Tryz.X9b (u:=.int .i64 c) (g:=g) (k:=m * 3 + 1) rfl rfl rfl rfl HBLK.out hin ?_; intro w6 hb6 hl6 ho6; refine halted ?_);have hset:((List.range t.causes.length).map (cF t mc)).set m (cName t.causes m,c,mc m) = (List.range (t.causes.set m ⟨cName t.causes m,c,Q0c t.causes m⟩).length).map fun i=>(cName (t.causes.set m ⟨cName t.causes m,c,Q0c t.causes m⟩) i,Q1d (t.causes.set m ⟨cName t.causes m,c,Q0c t.causes m⟩) i,mc i):=by
    apply List.ext_getElem (by simp)
    intro i h1 h2;simp only [List.length_set,List.length_map,List.length_range] at h1;rw [List.getElem_set];simp only [List.getElem_map,List.getElem_range];unfold cName Q1d;rw [Q6y _ _ _ _ h1]
    by_cases h:m = i
    · subst h; rw [if_pos rfl,if_pos rfl]
    · rw [if_neg h,if_neg (fun e=>h e.symm)]; rfl
   have HBC:Hid (Q1z w6 W.heap.size 82 3 enc3 (.slice (some ⟨g,0,none⟩) t.causes.length cc) ((List.range (t.causes.set m ⟨cName t.causes m,c,Q0c t.causes m⟩).length).map fun i=>(cName (t.causes.set m ⟨cName t.causes m,c,Q0c t.causes m⟩) i,Q1d (t.causes.set m ⟨cName t.causes m,c,Q0c t.causes m⟩) i,mc i))):=by
    have h:=X3x (y:=(cName t.causes m,c,mc m)) (l:=(List.range t.causes.length).map (cF t mc)) (i:=m) (j:=1) (x:=.int .i64 c) Q0s hb (by simpa using hc) hm hs htk (by simpa using hm') (by decide:1 < 3) (by simp [cF,enc3]) hb6
    rw [hset,List.length_map,List.length_range] at h;exact h
   have HBB:=Lib.hid (Q2i HOWN.out.bas HBLK.out (by decide) ho6)
   have HBG:=Lib.hid (Q2i HOWN.out.gat HBLK.out (by decide) ho6)
   have HM:Hid (∀ i,i < t.causes.length → Q0q w6 0 3 (.int .i64) (mc i) (Q0c t.causes i)):=by exact (fun i hi=>Q1m (HOWN.out.mem i hi) HBLK.out (by decide) ho6:∀ i,i < t.causes.length → Q0q w6 0 3 (.int .i64) (mc i) (Q0c t.causes i))
   have HI:Hid (∀ i,i < t.gates.length → Q0q w6 0 3 (.int .i64) (mg i) (Q0l t.gates i)):=by exact (fun i hi=>Q1m (HOWN.out.inp i hi) HBLK.out (by decide) ho6:∀ i,i < t.gates.length → Q0q w6 0 3 (.int .i64) (mg i) (Q0l t.gates i))
   have HB6:=Lib.hid (HB.out.only (Q1i HB.out HBLK.out (by decide)) ho6)
   have HR6:=Lib.hid (HR.out.only (Q1i HR.out HBLK.out (by decide)) ho6)
   have HX6:Hid (Ext w w6):=by exact (Below.trans HX1.out (hl6 w.heap.size (by omega)):Ext w w6)
   have HTO:Hid (Q3c t kn c = ⟨t.basics,t.causes.set m ⟨cName t.causes m,c,Q0c t.causes m⟩,t.gates⟩):=by exact (by unfold Q3c; rw [if_neg hlt,HKM.out,Nat.add_sub_cancel_left]:Q3c t kn c = _)
   clear hb6 hl6 ho6 c0 d0 d1 htk hset hwr;unfold Q3f;go_wp2_with (first | (refine Q0j rfl _ 26 rfl Tryz.Q2g Tryz.Q0x rfl HB6.out rfl ?_) | (refine Q0d rfl _ _ 26 rfl Tryz.Q0x rfl rfl HR6.out rfl rfl ?_ ?_; (focus (intro u hu; simp only [List.mem_cons,List.not_mem_nil,or_false] at hu; rcases hu with rfl | rfl | rfl <;> rfl)); intro w8 hb8 hl8 ho8))
   have f1:=Q2i HBB.out HR6.out (by decide) ho8
   have f2:=Q2i HBC.out HR6.out (by decide) ho8
   have f3:=Q2i HBG.out HR6.out (by decide) ho8
   have HM8:∀ i,i < t.causes.length → Q0f w8 (mc i) (Q0c t.causes i):=fun i hi=>(Q1m (HM.out i hi) HR6.out (by decide) ho8).ints (HT.out.causes.short hi).2
   have HI8:∀ i,i < t.gates.length → Q0f w8 (mg i) (Q0l t.gates i):=fun i hi=>(Q1m (HI.out i hi) HR6.out (by decide) ho8).ints (HT.out.gates.short hi).2
   refine bodyPost_ret (Q3h Tryz.results42 rfl hb8 Tryz.Q2g Tryz.Q0x) rfl ?_;have hm8:∀ i,i < t.causes.length → Q0q w8 0 3 (.int .i64) (mc i) (Q0c t.causes i):=fun i hi=>Q1m (HM.out i hi) HR6.out (by decide) ho8
   have hi8:∀ i,i < t.gates.length → Q0q w8 0 3 (.int .i64) (mg i) (Q0l t.gates i):=fun i hi=>Q1m (HI.out i hi) HR6.out (by decide) ho8
   rw [HTO.out];refine ⟨_,_,_,mc,mg,rfl,⟨Q2k f1 (Nat.zero_le _),Q2k f2 (Nat.zero_le _),Q2k f3 (Nat.zero_le _),fun i hi=>?_,hi8⟩,⟨?_,?_,?_⟩,Below.trans HX6.out (hl8 _ (by omega))⟩
   · replace hi:i < (t.causes.set m ⟨cName t.causes m,c,Q0c t.causes m⟩).length:=hi
     rw [List.length_set] at hi;have h8:=hm8 i hi;unfold Q0c at h8 ⊢;rw [Q6y _ _ _ _ hi]
     by_cases h:i = m
     · subst h; rw [if_pos rfl]; exact h8
     · rw [if_neg h]; exact h8
   · exact Q8p f1 HT.out.basics
   · refine X5b f2 (by rw [List.length_set]; have:=hfit.nc; omega) (fun i hi=>?_) fun i hi=>?_
     · rw [List.length_set] at hi
       unfold cName;rw [Q6y _ _ _ _ hi]
       by_cases h:i = m
       · subst h; rw [if_pos rfl]; exact (HT.out.causes.short hi).1
       · rw [if_neg h]; exact (HT.out.causes.short hi).1
     · rw [List.length_set] at hi
       have h8:=HM8 i hi;unfold Q0c at h8 ⊢;rw [Q6y _ _ _ _ hi]
       by_cases h:i = m
       · subst h; rw [if_pos rfl]; exact h8
       · rw [if_neg h]; exact h8
   · exact Q8c f3 HT.out.gates HI8
end Go.Proofs
