/- Contract of the reference: Dual. -/
import Derived.Test.YtmaejccjimkbiaaGreatDoorFx49
import Derived.Test.YtmaejccjimkbiaaGreatDoorFx50
import Derived.Test.YtmaejccjimkbiaaGreatDoorFx36
set_option linter.unusedVariables false
set_option linter.unusedSimpArgs false
set_option linter.constructorNameAsVariable false
namespace Go.Proofs
open Go.RowKit Go.Tw Go.Flow
def part {α:Type} (f:α → α) (l:List α) (k:Nat):List α:=(l.take k).map f ++ l.drop k
theorem X1w {α:Type} (f:α → α) (l:List α) (k:Nat):(part f l k).length = l.length:=by
 unfold part; simp only [List.length_append,List.length_map,List.length_take,List.length_drop]; omega
theorem Z1x {α:Type} (f:α → α) (l:List α):part f l l.length = l.map f:=by
 unfold part; rw [List.take_length,List.drop_length,List.append_nil]
theorem Y9b {α:Type} (f:α → α) (l:List α) (k:Nat) (h:k < l.length) (h':k < (part f l k).length):(part f l k)[k] = l[k]:=by
 have h1:(part f l k)[k]? = l[k]?:=by
  have e:k - ((l.take k).map f).length = 0:=by simp; omega
  unfold part;rw [List.getElem?_append_right (by simp; omega),e,List.getElem?_drop,Nat.add_zero]
 rw [List.getElem?_eq_getElem h',List.getElem?_eq_getElem h] at h1;exact Option.some.inj h1
theorem Y8l {α:Type} (f:α → α) (l:List α) (k:Nat) (h:k < l.length):(part f l k).set k (f l[k]) = part f l (k + 1):=by
 unfold part;rw [List.set_append_right _ _ (by simp; omega),List.take_add_one,List.getElem?_eq_getElem h,Option.toList_some,List.map_append,List.append_assoc,List.drop_eq_getElem_cons h]
 have e:k - ((l.take k).map f).length = 0:=by simp; omega
 rw [e];rfl
theorem Y9s {α:Type} (f f':Nat → α) {n k:Nat} (h:∀ j,j ≠ k → f' j = f j):((List.range n).map f).set k (f' k) = (List.range n).map f':=by
 apply List.ext_getElem (by simp)
 intro i h1 h2;rw [List.getElem_set];simp only [List.getElem_map,List.getElem_range]
 by_cases e:k = i
 · subst e; rw [if_pos rfl]
 · rw [if_neg e,h i (fun x=>e x.symm)]
theorem Y5m {w:World} {base:Nat} {v:Value} {l:List Gate} {mc:Nat → Value} (h:Q1z w base 128 3 enc3 v ((List.range l.length).map fun i=>(Q2c l i,Q2x l i,mc i))) (hl:l.length ≤ 17592186043904) (hsh:∀ i,i < l.length → Short (Q2c l i)) (hm:∀ i,i < l.length → Q0f w (mc i) (Q0l l i)):Q4m w v l:=by
 refine h.rowsOf (by simp) hl Q0s (fun j h1 h2=>?_) (fun c c' x hc h=>?_)
 · have hmm:=hm j h2
   have e:l.getD j default = l[j]:=getD_at h2;simp only [List.getElem_map,List.getElem_range];refine ⟨?_,?_,?_,?_⟩
   · show Value.string (Q2c l j) = _; unfold Q2c; rw [e]
   · show Value.int .i64 (Q2x l j) = _; unfold Q2x; rw [e]
   · show Q0f w (mc j) _; unfold Q0l at hmm; rw [e] at hmm; exact hmm
   · have:=hsh j h2; unfold Q2c at this; rw [e] at this; exact this
 · obtain ⟨h1,h2,h3,h4⟩:=h
   exact ⟨by rw [← hc 0 (by omega)]; exact h1,by rw [← hc 1 (by omega)]; exact h2,by rw [← hc 2 (by omega)]; exact h3,h4⟩
theorem Q8u {α:Type} {w w':World} {base k g:Nat} {e S:TypeId} {enc:α → List Value} {v:Value} {l:List α} {cs:Array Value} (h:Q1z w base e k enc v l) (hb:Blk w g S cs) (hT:S ≠ e) (ho:∀ b,b < w.heap.size → b ≠ g → w'.heap[b]? = w.heap[b]?):Q1z w' base e k enc v l:=by
 obtain ⟨h1,h2⟩:=h;refine ⟨h1,?_⟩
 rcases h2 with h2 | ⟨g',cap,cur,hv,hbb,hgl,r⟩
 · exact .inl h2
 · exact .inr ⟨g',cap,cur,hv,hbb,Q1p hgl (Q1i hgl hb fun e'=>hT e'.symm) ho,r⟩
set_option maxRecDepth 100000 in
set_option maxHeartbeats 4000000 in
theorem Y1y (w:World) (v:Value) (t:Tree) (ht:IsTree w v t) (hc:0 < t.causes.length) :
    Calls Tryz.prog 41 #[v] w fun e w'=>∃ u,e = .returned (.tuple #[u,.int .i64 19]) ∧ IsTree w' u ⟨[],[],[]⟩ ∧ Ext w w':=by
 obtain ⟨a,b,c,rfl,h3⟩:=ht;obtain ⟨A,capa,rfl,hl1,hcap1,_⟩:=h3.basics.opened;obtain ⟨B,capb,rfl,hl2,hcap2,_⟩:=h3.causes.opened;obtain ⟨G,capg,rfl,hl3,hcap3,_⟩:=h3.gates.opened;have HT0:=Lib.hid h3;clear h3;go_enter Tryz.func41,Tryz.ntmps41;go_upto_region 1 with fail;change Code.wp _ _ _ _ ((w.alloc (.cells #[.slice A t.basics.length capa,.slice B t.causes.length capb,.slice G t.gates.length capg] 26)).alloc (.cells #[.slice none 0 0,.slice none 0 0,.slice none 0 0] 26));have k0:=Blk.made w 26 #[.slice A t.basics.length capa,.slice B t.causes.length capb,.slice G t.gates.length capg];have x0:=Ext.box w (.cells #[.slice A t.basics.length capa,.slice B t.causes.length capb,.slice G t.gates.length capg] 26);have es0:(w.alloc (.cells #[.slice A t.basics.length capa,.slice B t.causes.length capb,.slice G t.gates.length capg] 26)).heap.size = w.heap.size + 1:=by simp
 obtain ⟨X0,hX0⟩:∃ X,w.alloc (.cells #[.slice A t.basics.length capa,.slice B t.causes.length capb,.slice G t.gates.length capg] 26) = X:=⟨_,rfl⟩;rw [hX0] at k0 x0 es0 ⊢;clear hX0;have k1:=Blk.made X0 26 #[.slice none 0 0,.slice none 0 0,.slice none 0 0];have x1:=Ext.box X0 (.cells #[.slice none 0 0,.slice none 0 0,.slice none 0 0] 26);have es1:(X0.alloc (.cells #[.slice none 0 0,.slice none 0 0,.slice none 0 0] 26)).heap.size = X0.heap.size + 1:=by simp
 obtain ⟨X1,hX1⟩:∃ X,X0.alloc (.cells #[.slice none 0 0,.slice none 0 0,.slice none 0 0] 26) = X:=⟨_,rfl⟩;rw [hX1] at k1 x1 es1 ⊢;clear hX1;replace k0:=k0.ext x1;have e0:X0.heap.size = w.heap.size + 1:=by omega
 have e1:X1.heap.size = w.heap.size + 1 + 1:=by omega
 rw [e0] at k1;have HXW:Hid (Ext w X1):=by exact (Ext.trans (x0) x1:Ext w X1)
 have eW:X1.heap.size = w.heap.size + 1 + 1:=e1;clear x0 es0 e0 x1 es1 e1;obtain ⟨W,hWW⟩:∃ W,X1 = W:=⟨_,rfl⟩;rw [hWW] at HXW eW ⊢ k0 k1;clear hWW;have HR:=Lib.hid k1;have c1:=k0.cell 1;simp only [List.getElem?_toArray,List.getElem?_cons_zero,List.getElem?_cons_succ] at c1;clear k0 k1;have hcI:(0:Int) < t.causes.length:=by omega
 go_wp2_with (refine Q0d rfl _ _ 26 rfl Tryz.Q0x rfl rfl HR.out rfl rfl ?_ ?_; (focus (intro u hu; simp only [List.mem_cons,List.not_mem_nil,or_false] at hu; rcases hu with rfl | rfl | rfl <;> rfl)); intro w8 hb8 hl8 ho8)
 refine bodyPost_ret (Q0o Tryz.results41 rfl hb8 Tryz.Q2g Tryz.Q0x rfl) rfl ?_;exact ⟨_,rfl,Q7a _,Below.trans HXW.out (hl8 _ (by omega))⟩
set_option maxRecDepth 100000 in
set_option maxHeartbeats 4000000 in
theorem Y8p (w:World) (v:Value) (t:Tree) (ht:IsTree w v t) (he:t.err = 0) (hc:t.causes = []) (hf:Few t) :
    Calls Tryz.prog 41 #[v] w fun e w'=>∃ vb vc vg mc mg,e = .returned (.tuple #[.agg #[vb,vc,vg],.int .i64 0]) ∧ Y6w w' 0 (X4v t) vb vc vg mc mg ∧ Q6u w' vb vc vg (X4v t) ∧ Ext w w':=by
 obtain ⟨a,b,c,rfl,h3⟩:=ht;obtain ⟨A,capa,rfl,hl1,hcap1,_⟩:=h3.basics.opened;obtain ⟨B,capb,rfl,hl2,hcap2,_⟩:=h3.causes.opened;obtain ⟨G,capg,rfl,hl3,hcap3,_⟩:=h3.gates.opened;have HT0:=Lib.hid h3;clear h3;have HV:=Lib.hid (Valid.of he);have hfit:=HV.out.fit;have HF:=Lib.hid hf;have HCN:=Lib.hid hc;clear hf he hc;go_enter Tryz.func41,Tryz.ntmps41;go_upto_region 1 with fail;change Code.wp _ _ _ _ ((w.alloc (.cells #[.slice A t.basics.length capa,.slice B t.causes.length capb,.slice G t.gates.length capg] 26)).alloc (.cells #[.slice none 0 0,.slice none 0 0,.slice none 0 0] 26));have k0:=Blk.made w 26 #[.slice A t.basics.length capa,.slice B t.causes.length capb,.slice G t.gates.length capg];have x0:=Ext.box w (.cells #[.slice A t.basics.length capa,.slice B t.causes.length capb,.slice G t.gates.length capg] 26);have es0:(w.alloc (.cells #[.slice A t.basics.length capa,.slice B t.causes.length capb,.slice G t.gates.length capg] 26)).heap.size = w.heap.size + 1:=by simp
 obtain ⟨X0,hX0⟩:∃ X,w.alloc (.cells #[.slice A t.basics.length capa,.slice B t.causes.length capb,.slice G t.gates.length capg] 26) = X:=⟨_,rfl⟩;rw [hX0] at k0 x0 es0 ⊢;clear hX0;have k1:=Blk.made X0 26 #[.slice none 0 0,.slice none 0 0,.slice none 0 0];have x1:=Ext.box X0 (.cells #[.slice none 0 0,.slice none 0 0,.slice none 0 0] 26);have es1:(X0.alloc (.cells #[.slice none 0 0,.slice none 0 0,.slice none 0 0] 26)).heap.size = X0.heap.size + 1:=by simp
 obtain ⟨X1,hX1⟩:∃ X,X0.alloc (.cells #[.slice none 0 0,.slice none 0 0,.slice none 0 0] 26) = X:=⟨_,rfl⟩;rw [hX1] at k1 x1 es1 ⊢;clear hX1;replace k0:=k0.ext x1;have e0:X0.heap.size = w.heap.size + 1:=by omega
 have e1:X1.heap.size = w.heap.size + 1 + 1:=by omega
 rw [e0] at k1;have HXW:Hid (Ext w X1):=by exact (Ext.trans (x0) x1:Ext w X1)
 have eW:X1.heap.size = w.heap.size + 1 + 1:=e1;clear x0 es0 e0 x1 es1 e1;obtain ⟨W,hWW⟩:∃ W,X1 = W:=⟨_,rfl⟩;rw [hWW] at HXW eW ⊢ k0 k1;clear hWW;have HT:=Lib.hid (HT0.out.ext HXW.out);have K0:=Lib.hid k0;have HR0:=Lib.hid k1;have c1:=k0.cell 1;simp only [List.getElem?_toArray,List.getElem?_cons_zero,List.getElem?_cons_succ] at c1;clear k0 k1;have hcI:¬ (0:Int) < t.causes.length:=by rw [HCN.out]; decide
 go_wp2_with (refine Q0j rfl _ 26 rfl Tryz.Q2g Tryz.Q0x rfl K0.out rfl ?_);clear c1 hcI;refine (X0n _ _ t ⟨_,_,_,rfl,HT.out⟩ HF.out HV.out.nb).mono ?_;rintro e w1 ⟨vb,vc,vg,mc,mg,rfl,hown,hx1⟩;have hWs:w.heap.size ≤ W.heap.size:=HXW.out.size;have HX1:=Lib.hid (HXW.out.trans hx1);have HR:=Lib.hid (HR0.out.ext hx1);replace HT:=Lib.hid (HT.out.ext hx1);have HOWN:=Lib.hid hown;clear HR0 K0 hx1;obtain ⟨sb,cb,hsb,_⟩:=hown.bas.shape;obtain ⟨sc,cc,hsc,_⟩:=hown.cau.shape;obtain ⟨sg,cg,hsg,_⟩:=hown.gat.shape;simp only [List.length_map,List.length_range] at hsc hsg;subst hsb hsc hsg;clear hown;have hxb:=Ext.box w1 (.cells #[.slice sb t.basics.length cb,.slice sc t.causes.length cc,.slice sg t.gates.length cg] 26);go_upto_region 4 with fail;have HB:=Lib.hid (Blk.made w1 26 #[.slice sb t.basics.length cb,.slice sc t.causes.length cc,.slice sg t.gates.length cg]);replace HX1:=Lib.hid (HX1.out.trans hxb);replace HR:=Lib.hid (HR.out.ext hxb);replace HT:=Lib.hid (HT.out.ext hxb);replace HOWN:=Lib.hid (HOWN.out.ext hxb);have hbs:w1.heap.size < (w1.alloc (.cells #[.slice sb t.basics.length cb,.slice sc t.causes.length cc,.slice sg t.gates.length cg] 26)).heap.size:=HB.out.lt;obtain ⟨W1,hW1⟩:∃ X,w1.alloc (.cells #[.slice sb t.basics.length cb,.slice sc t.causes.length cc,.slice sg t.gates.length cg] 26) = X:=⟨_,rfl⟩;rw [hW1] at HX1 HR HT HOWN HB hbs ⊢;clear hW1 hxb;obtain ⟨o,ho⟩:∃ o,w1.heap.size = o:=⟨_,rfl⟩;rw [ho] at HB hbs ⊢;clear ho;obtain ⟨gb,cap,cur,hv,hb,hblk,_,_,_,_⟩:=Q6p HOWN.out.bas (Nat.lt_of_lt_of_le Nat.zero_lt_one HV.out.nb);injection hv with hv1 hvl hv2;clear hvl;subst hv1 hv2;have HBB0:=Lib.hid hblk;obtain ⟨gg,capg',curg,hv,hbg,hblkg,_,_,_,_⟩:=Q6p HOWN.out.gat (by simp only [List.length_map,List.length_range]; exact HV.out.ng)
 injection hv with hv1 hvl hv2;clear hvl;subst hv1 hv2;have HBG0:=Lib.hid hblkg;clear hblk hblkg;have hnb:=hfit.nb;have hng:=hfit.ng;have hP0:Q1z W1 W.heap.size 80 2 X3j (.slice (some ⟨gb,0,none⟩) t.basics.length cb) (part X1n t.basics 0):=HOWN.out.bas;have HP0:=Lib.hid hP0;clear hP0;go_wp2
 go_loopw [5] (fun i wr=>∃ (k:Nat),k ≤ t.basics.length ∧ i = .int .i64 k ∧ Q1z wr W.heap.size 80 2 X3j (.slice (some ⟨gb,0,none⟩) t.basics.length cb) (part X1n t.basics k) ∧ Ext w wr ∧ W1.heap.size ≤ wr.heap.size ∧ ∀ b,b < W1.heap.size → b ≠ gb → wr.heap[b]? = W1.heap[b]?) (fun i _=>t.basics.length - (intOf i).toNat)
 case atStart=>exact ⟨0,Nat.zero_le _,rfl,HP0.out,HX1.out,Nat.le_refl _,fun _ _ _=>rfl⟩
 case round =>
  obtain ⟨k,hk,rfl,hown,hbel,hsz,hoth⟩:=hrel;obtain ⟨w5,rfl⟩:∃ X,X = wr:=⟨_,rfl⟩
  by_cases hlt:k < t.basics.length
  · obtain ⟨g',cap',cur',hv,hb',hblk,hcc,hm,hs,htk⟩:=Q6p hown (by rw [X1w]; omega)
    injection hv with hv1 hvl hv2;injection hv1 with hv1;injection hv1 with hv1;clear hvl;subst hv1 hv2;obtain ⟨ch,hch⟩:∃ x,Q1l t.basics k = x:=⟨_,rfl⟩;have hchb:0 ≤ ch ∧ ch ≤ 16:=by
     have h:=HV.out.chance (i:=k) (by unfold Tree.size; omega)
     unfold Tree.Q0y at h;rw [if_pos hlt,hch] at h;exact h
    have e1:w5.cell? ⟨gb,k * 2 + 1,none⟩ = some (.int .i64 ch):=by
     have h:=X1p Q6i hblk htk (i:=k) (j:=1) (by rw [X1w]; exact hlt) (by decide)
     rw [Y9b _ _ _ hlt] at h;rw [h,← hch];unfold Q1l;rw [getD_at hlt];rfl
    have HPUT:Hid (∀ w6,Blk w6 gb 80 (cur'.setIfInBounds (k * 2 + 1) (.int .i64 (16 - ch))) → Q1z w6 W.heap.size 80 2 X3j (.slice (some ⟨gb,0,none⟩) t.basics.length cb) (part X1n t.basics (k + 1))):=by
     refine Lib.hid (fun w6 hw=>?_);have h:=X3x (y:=X1n t.basics[k]) (i:=k) (j:=1) Q6i hb' hcc hm hs htk (by rw [X1w]; exact hlt) (by decide) (by rw [Y9b _ _ _ hlt,← hch]; unfold Q1l X1n; rw [getD_at hlt]; rfl) hw
     rw [Y8l _ _ _ hlt,X1w] at h;exact h
    have hin:k * 2 + 1 < cur'.size:=by rw [hs]; rw [X1w] at hcc; omega
    have HBLK:=Lib.hid hblk;have HBEL:=Lib.hid hbel;have HOTH:=Lib.hid hoth;have HB6:=Lib.hid (Q1p HB.out (Q1i HB.out HBB0.out (by decide)) hoth)
    have d0:=HB6.out.cell 0;simp only [List.getElem?_toArray,List.getElem?_cons_zero] at d0;have hkI:(k:Int) < t.basics.length:=by omega
    have hdr:=(Ext.refl w5).drew;have hsub:IntKind.i64.wrap (16 - ch) = 16 - ch:=wrap_in (by omega) (by omega)
    clear hown hblk hbel hoth hch htk hcc hm hs;go_wp2;refine Flow.Q3v [.plain,.world,.plain,.plain,.world,.plain,.plain,.plain,.world,.plain,.plain,.plain,.last] [0,1,2,3,4,5,6,7,8,9,10,11,12] [[],[0],[],[],[3],[],[3,4,5],[3,4,5,6],[3,4,5,6,7],[3,4,5,6,7,8],[0,1,2,3,4,5,6,7,8,9],[0,1,2,3,4,5,6,7,8,9,10],[0,1,2,3,4,5,6,7,8,9,10,11]] [12]
     [.is 0 (fun v=>.pointer (some ⟨o,0,none⟩)),.is 1 (fun v=>.slice (some ⟨gb,0,none⟩) t.basics.length cb),.is 2 (fun v=>.int .i64 k),.is 3 (fun v=>.pointer (some ⟨o,0,none⟩)),.is 4 (fun v=>.slice (some ⟨gb,0,none⟩) t.basics.length cb),.is 5 (fun v=>.int .i64 k),.is 6 (fun v=>.pointer (some ⟨gb,k * 2,none⟩)),.is 7 (fun v=>.pointer (some ⟨gb,k * 2 + 1,none⟩)),.is 8 (fun v=>.int .i64 ch),.is 9 (fun v=>.int .i64 (16 - ch)),.is 10 (fun v=>.pointer (some ⟨gb,k * 2,none⟩)),.is 11 (fun v=>.pointer (some ⟨gb,k * 2 + 1,none⟩)),.none]
     [fun v w1 w2=>Blk w2 gb 80 (cur'.setIfInBounds (k * 2 + 1) (.int .i64 (16 - ch))) ∧ (∀ n,n ≤ gb → Below n w1 w2) ∧ ∀ k,k ≠ gb → w2.heap[k]? = w1.heap[k]?] (by kernel_rfl) rfl (by kernel_rfl) ⟨?g0,?g1,?g2,?g3,?g4,?g5,?g6,?g7,?g8,?g9,?g10,?g11,?g12,trivial⟩ ?post
    case g0 =>
     intro v w1 hx;intro bb hbb;subst hbb;refine ⟨_,fun w=>?_,rfl⟩;go_simp
    case g1 =>
     intro v w1 hx (q0:v 0 = .pointer (some ⟨o,0,none⟩));intro bb hbb;subst hbb;have n0:w1.cell? ⟨o,0,none⟩ = some (.slice (some ⟨gb,0,none⟩) t.basics.length cb):=(HB6.out.ext (hdr.trans hx)).cell 0;intro K hK;go_simp;exact hK _ _ (Ext.refl _) rfl
    case g2 =>
     intro v w1 hx;intro bb hbb;subst hbb;refine ⟨_,fun w=>?_,rfl⟩;go_simp
    case g3 =>
     intro v w1 hx;intro bb hbb;subst hbb;refine ⟨_,fun w=>?_,rfl⟩;go_simp
    case g4 =>
     intro v w1 hx (q3:v 3 = .pointer (some ⟨o,0,none⟩));intro bb hbb;subst hbb;have n0:w1.cell? ⟨o,0,none⟩ = some (.slice (some ⟨gb,0,none⟩) t.basics.length cb):=(HB6.out.ext (hdr.trans hx)).cell 0;intro K hK;go_simp;exact hK _ _ (Ext.refl _) rfl
    case g5 =>
     intro v w1 hx;intro bb hbb;subst hbb;refine ⟨_,fun w=>?_,rfl⟩;go_simp
    case g6 =>
     intro v w1 hx (q3:v 3 = .pointer (some ⟨o,0,none⟩)) (q4:v 4 = .slice (some ⟨gb,0,none⟩) t.basics.length cb) (q5:v 5 = .int .i64 k);intro bb hbb;subst hbb;refine ⟨_,fun w=>?_,rfl⟩;go_simp
    case g7 =>
     intro v w1 hx (q3:v 3 = .pointer (some ⟨o,0,none⟩)) (q4:v 4 = .slice (some ⟨gb,0,none⟩) t.basics.length cb) (q5:v 5 = .int .i64 k) (q6:v 6 = .pointer (some ⟨gb,k * 2,none⟩));intro bb hbb;subst hbb;refine ⟨_,fun w=>?_,rfl⟩;go_simp
    case g8 =>
     intro v w1 hx (q3:v 3 = .pointer (some ⟨o,0,none⟩)) (q4:v 4 = .slice (some ⟨gb,0,none⟩) t.basics.length cb) (q5:v 5 = .int .i64 k) (q6:v 6 = .pointer (some ⟨gb,k * 2,none⟩)) (q7:v 7 = .pointer (some ⟨gb,k * 2 + 1,none⟩));intro bb hbb;subst hbb;have n0:w1.cell? ⟨gb,k * 2 + 1,none⟩ = some (.int .i64 ch):=(hdr.trans hx).cell e1;intro K hK;go_simp;exact hK _ _ (Ext.refl _) rfl
    case g9 =>
     intro v w1 hx (q3:v 3 = .pointer (some ⟨o,0,none⟩)) (q4:v 4 = .slice (some ⟨gb,0,none⟩) t.basics.length cb) (q5:v 5 = .int .i64 k) (q6:v 6 = .pointer (some ⟨gb,k * 2,none⟩)) (q7:v 7 = .pointer (some ⟨gb,k * 2 + 1,none⟩)) (q8:v 8 = .int .i64 ch);intro bb hbb;subst hbb;refine ⟨_,fun w=>?_,rfl⟩;go_simp
    case g10 =>
     intro v w1 hx (q0:v 0 = .pointer (some ⟨o,0,none⟩)) (q1:v 1 = .slice (some ⟨gb,0,none⟩) t.basics.length cb) (q2:v 2 = .int .i64 k) (q3:v 3 = .pointer (some ⟨o,0,none⟩)) (q4:v 4 = .slice (some ⟨gb,0,none⟩) t.basics.length cb) (q5:v 5 = .int .i64 k) (q6:v 6 = .pointer (some ⟨gb,k * 2,none⟩)) (q7:v 7 = .pointer (some ⟨gb,k * 2 + 1,none⟩)) (q8:v 8 = .int .i64 ch) (q9:v 9 = .int .i64 (16 - ch));intro bb hbb;subst hbb;refine ⟨_,fun w=>?_,rfl⟩;go_simp
    case g11 =>
     intro v w1 hx (q0:v 0 = .pointer (some ⟨o,0,none⟩)) (q1:v 1 = .slice (some ⟨gb,0,none⟩) t.basics.length cb) (q2:v 2 = .int .i64 k) (q3:v 3 = .pointer (some ⟨o,0,none⟩)) (q4:v 4 = .slice (some ⟨gb,0,none⟩) t.basics.length cb) (q5:v 5 = .int .i64 k) (q6:v 6 = .pointer (some ⟨gb,k * 2,none⟩)) (q7:v 7 = .pointer (some ⟨gb,k * 2 + 1,none⟩)) (q8:v 8 = .int .i64 ch) (q9:v 9 = .int .i64 (16 - ch)) (q10:v 10 = .pointer (some ⟨gb,k * 2,none⟩));intro bb hbb;subst hbb;refine ⟨_,fun w=>?_,rfl⟩;go_simp
    case g12 =>
     intro v w1 hx (q0:v 0 = .pointer (some ⟨o,0,none⟩)) (q1:v 1 = .slice (some ⟨gb,0,none⟩) t.basics.length cb) (q2:v 2 = .int .i64 k) (q3:v 3 = .pointer (some ⟨o,0,none⟩)) (q4:v 4 = .slice (some ⟨gb,0,none⟩) t.basics.length cb) (q5:v 5 = .int .i64 k) (q6:v 6 = .pointer (some ⟨gb,k * 2,none⟩)) (q7:v 7 = .pointer (some ⟨gb,k * 2 + 1,none⟩)) (q8:v 8 = .int .i64 ch) (q9:v 9 = .int .i64 (16 - ch)) (q10:v 10 = .pointer (some ⟨gb,k * 2,none⟩)) (q11:v 11 = .pointer (some ⟨gb,k * 2 + 1,none⟩));intro wl hT;obtain rfl:wl = w1:=hT;intro bb hbb;intro K hK;have o1:bb.eval (.tmp 32) = .pointer (some ⟨gb,k * 2 + 1,none⟩):=by rw [hbb]; dsimp only; (try simp (discharger:=decide) only [eval_put_ne]); rw [Q0a (by simp only [size_put]; exact (by decide:32 < 85))]; exact q11
     have o2:bb.eval (.tmp 30) = .int .i64 (16 - ch):=by rw [hbb]; dsimp only; (try simp (discharger:=decide) only [eval_put_ne]); rw [Q0a (by simp only [size_put]; exact (by decide:30 < 85))]; exact q9
     have hbx:=HBLK.out.ext (hdr.trans hx);refine Q3a (.tmp 32) (.tmp 30) rfl Tryz.X9b o1 o2 rfl rfl hbx hin (fun vv=>hK _ _ ⟨hbx.set _ _,fun n hn=>(Below.refl n _).setCell (p:=⟨gb,k * 2 + 1,none⟩) hn _,fun k' hk'=>Below.heap_setCell _ _ _ _ hk'⟩)
    case post =>
     intro v w1 hx (q0:v 0 = .pointer (some ⟨o,0,none⟩)) (q1:v 1 = .slice (some ⟨gb,0,none⟩) t.basics.length cb) (q2:v 2 = .int .i64 k) (q3:v 3 = .pointer (some ⟨o,0,none⟩)) (q4:v 4 = .slice (some ⟨gb,0,none⟩) t.basics.length cb) (q5:v 5 = .int .i64 k) (q6:v 6 = .pointer (some ⟨gb,k * 2,none⟩)) (q7:v 7 = .pointer (some ⟨gb,k * 2 + 1,none⟩)) (q8:v 8 = .int .i64 ch) (q9:v 9 = .int .i64 (16 - ch)) (q10:v 10 = .pointer (some ⟨gb,k * 2,none⟩)) (q11:v 11 = .pointer (some ⟨gb,k * 2 + 1,none⟩));intro w2 hE;replace hE:(fun v w1 w2=>Blk w2 gb 80 (cur'.setIfInBounds (k * 2 + 1) (.int .i64 (16 - ch))) ∧ (∀ n,n ≤ gb → Below n w1 w2) ∧ ∀ k,k ≠ gb → w2.heap[k]? = w1.heap[k]?) v w1 w2:=hE;simp only [Flow.acts,Act.put];go_simp;obtain ⟨hb6,hlow,hot6⟩:=hE;have hxx:=hdr.trans hx;have HBS:=Lib.hid (HPUT.out _ hb6);have HE6:Hid (Ext w w2):=by exact (Below.trans (HBEL.out.trans hxx) (hlow w.heap.size (by omega)):Ext w w2)
     have HS6:Hid (W1.heap.size ≤ w2.heap.size):=by exact (Nat.le_trans hsz (Nat.le_trans hxx.size (hlow 0 (Nat.zero_le _)).size):W1.heap.size ≤ w2.heap.size)
     have HO6:Hid (∀ b,b < W1.heap.size → b ≠ gb → w2.heap[b]? = W1.heap[b]?):=by exact (fun b hb hne=>(hot6 b hne).trans ((hxx.block b (Nat.lt_of_lt_of_le hb hsz)).trans (HOTH.out b hb hne)):∀ b,b < W1.heap.size → b ≠ gb → w2.heap[b]? = W1.heap[b]?)
     clear hb6 hlow hot6 hxx hx hdr d0 e1 q0 q1 q2 q3 q4 q5 q6 q7 q8 q9 q10 q11;go_wp2;go_roundw
     case rel=>exact ⟨k + 1,by omega,by go_num,HBS.out,HE6.out,HS6.out,HO6.out⟩
     case measure=>simp [intOf]; omega
  · have e:k = t.basics.length:=by omega
    subst e;rw [Z1x] at hown;have HBAS:=Lib.hid hown;have HX5:=Lib.hid hbel;have HCAU:=Lib.hid (Q8u HOWN.out.cau HBB0.out (by decide) hoth)
    have hgat:Q1z w5 W.heap.size 128 3 enc3 (.slice (some ⟨gg,0,none⟩) t.gates.length cg) ((List.range t.gates.length).map (gD t mg 0)):=Q8u HOWN.out.gat HBB0.out (by decide) hoth
    have HGAT:=Lib.hid hgat;have HBG:=Lib.hid (Q1p HBG0.out (Q1i HBG0.out HBB0.out (by decide)) hoth)
    have HB5:=Lib.hid (Q1p HB.out (Q1i HB.out HBB0.out (by decide)) hoth)
    have HR5:=Lib.hid (Q1p HR.out (Q1i HR.out HBB0.out (by decide)) hoth)
    have HM:Hid (∀ i,i < t.causes.length → Q0q w5 0 3 (.int .i64) (mc i) (Q0c t.causes i)):=by exact (fun i hi=>Q3i (HOWN.out.mem i hi) HBB0.out (by decide) hoth:∀ i,i < t.causes.length → Q0q w5 0 3 (.int .i64) (mc i) (Q0c t.causes i))
    have HI:Hid (∀ i,i < t.gates.length → Q0q w5 0 3 (.int .i64) (mg i) (Q0l t.gates i)):=by exact (fun i hi=>Q3i (HOWN.out.inp i hi) HBB0.out (by decide) hoth:∀ i,i < t.gates.length → Q0q w5 0 3 (.int .i64) (mg i) (Q0l t.gates i))
    have d0:=HB5.out.cell 0;simp only [List.getElem?_toArray,List.getElem?_cons_zero] at d0;clear hown hbel hoth hsz hgat;go_wp2;clear d0
    go_loopw [6] (fun i wr=>∃ (k:Nat),k ≤ t.gates.length ∧ i = .int .i64 k ∧ Q1z wr W.heap.size 128 3 enc3 (.slice (some ⟨gg,0,none⟩) t.gates.length cg) ((List.range t.gates.length).map (gD t mg k)) ∧ Ext w wr ∧ w5.heap.size ≤ wr.heap.size ∧ ∀ b,b < w5.heap.size → b ≠ gg → wr.heap[b]? = w5.heap[b]?) (fun i _=>t.gates.length - (intOf i).toNat)
    case atStart=>exact ⟨0,Nat.zero_le _,rfl,HGAT.out,HX5.out,Nat.le_refl _,fun _ _ _=>rfl⟩
    case round =>
     obtain ⟨k,hk,rfl,hown,hbel,hsz,hoth⟩:=hrel;obtain ⟨w6,rfl⟩:∃ X,X = wr:=⟨_,rfl⟩
     by_cases hlt:k < t.gates.length
     · obtain ⟨g',cap',cur',hv,hb',hblk,hcc,hm,hs,htk⟩:=Q6p hown (by simp; omega)
       injection hv with hv1 hvl hv2;injection hv1 with hv1;injection hv1 with hv1;clear hvl;subst hv1 hv2;have hll:((List.range t.gates.length).map (gD t mg k)).length = t.gates.length:=by simp
       have hlk:k < ((List.range t.gates.length).map (gD t mg k)).length:=by rw [hll]; exact hlt
       have hat:((List.range t.gates.length).map (gD t mg k))[k] = gF t mg k:=by
        simp only [List.getElem_map,List.getElem_range];unfold gD;rw [if_neg (Nat.lt_irrefl k)]
       have hnd:=Valid.need HV.out hlt;have hI:Q0f w6 (mg k) (Q0l t.gates k):=(Q3i (HI.out k hlt) HBG.out (by decide) hoth).ints (HT.out.gates.short hlt).2
       obtain ⟨A3,cap3,hsh3,_,_,_⟩:=hI.opened;obtain ⟨nm,hnm⟩:∃ x,Q2c t.gates k = x:=⟨_,rfl⟩;obtain ⟨nd,hndd⟩:∃ x,Q2x t.gates k = x:=⟨_,rfl⟩;obtain ⟨ml,hml⟩:∃ x,Q0l t.gates k = x:=⟨_,rfl⟩;rw [hndd,hml] at hnd;rw [hml] at hsh3;have e0:w6.cell? ⟨gg,k * 3 + 0,none⟩ = some (.string nm):=by
        have h:=X1p Q0s hblk htk (i:=k) (j:=0) hlk (by decide)
        rw [hat] at h;rw [h,← hnm]; rfl
       have e1:w6.cell? ⟨gg,k * 3 + 1,none⟩ = some (.int .i64 nd):=by
        have h:=X1p Q0s hblk htk (i:=k) (j:=1) hlk (by decide)
        rw [hat] at h;rw [h,← hndd]; rfl
       have e2:w6.cell? ⟨gg,k * 3 + 2,none⟩ = some (.slice A3 ml.length cap3):=by
        have h:=X1p Q0s hblk htk (i:=k) (j:=2) hlk (by decide)
        rw [hat] at h;rw [h,← hsh3]; rfl
       rw [Nat.add_zero] at e0;have HPUT:Hid (∀ w7 r x,r < 3 → enc3 ((gDk t k).1,(gDk t k).2,mg k) = (enc3 (Q2c t.gates k,Q2x t.gates k,mg k)).set r x → Blk w7 gg 128 (cur'.setIfInBounds (k * 3 + r) x) → Q1z w7 W.heap.size 128 3 enc3 (.slice (some ⟨gg,0,none⟩) t.gates.length cg) ((List.range t.gates.length).map (gD t mg (k + 1)))):=by
        refine Lib.hid (fun w7 r x hr he hw=>?_);have h:=X3x (y:=gD t mg (k + 1) k) (i:=k) (j:=r) Q0s hb' hcc hm hs htk hlk hr (by rw [hat]; unfold gD; rw [if_pos (Nat.lt_succ_self k)]; exact he) hw
        rw [Y9s _ _ (fun j hj=>X4b t mg k j hj),hll] at h;exact h
       have hin:k * 3 + 2 < cur'.size:=by rw [hs]; rw [hll] at hcc; omega
       have HNM:=Lib.hid hnm;have HND:=Lib.hid hndd;have HML:=Lib.hid hml;have HBLK:=Lib.hid hblk;have HBEL:=Lib.hid hbel;have HOTH:=Lib.hid hoth;have HB6:=Lib.hid (Q1p HB5.out (Q1i HB5.out HBG.out (by decide)) hoth)
       have d2:=HB6.out.cell 2;simp only [List.getElem?_toArray,List.getElem?_cons_zero,List.getElem?_cons_succ] at d2;have hkI:(k:Int) < t.gates.length:=by omega
       clear hown hblk hbel hoth hnm hndd hml htk hcc hm hs hll hlk hat hI hsh3
       by_cases hk1:nm = Q8z
       · subst hk1
         unfold Q8z at e0;go_wp2_with (refine Q1b rfl _ _ 9 rfl Tryz.Z1r (u:=.string ⟨#[111,114]⟩) (g:=gg) (k:=k * 3 + 0) rfl rfl rfl rfl HBLK.out (by omega) ?_; intro w8 hb8 hl8 ho8; refine halted ?_)
         have HBS:=Lib.hid (HPUT.out _ 0 _ (by decide) (by rw [Y2y HNM.out,HNM.out]; rfl) hb8)
         have HE8:Hid (Ext w w8):=by exact (Below.trans HBEL.out (hl8 w.heap.size (by omega)):Ext w w8)
         have HS8:Hid (w5.heap.size ≤ w8.heap.size):=by exact (Nat.le_trans hsz (hl8 0 (Nat.zero_le _)).size:w5.heap.size ≤ w8.heap.size)
         have HO8:Hid (∀ b,b < w5.heap.size → b ≠ gg → w8.heap[b]? = w5.heap[b]?):=by exact (fun b hb hne=>(ho8 b hne).trans (HOTH.out b hb hne):∀ b,b < w5.heap.size → b ≠ gg → w8.heap[b]? = w5.heap[b]?)
         clear hb8 hl8 ho8 d2 e0 e1 e2;unfold Q3f;go_wp2;go_roundw
         case rel=>exact ⟨k + 1,by omega,by go_num,HBS.out,HE8.out,HS8.out,HO8.out⟩
         case measure=>simp [intOf]; omega
       · have hb1:=Q6r Y3w hk1
         by_cases hk2:nm = sOr
         · subst hk2
           clear hb1;unfold sOr at e0;go_wp2_with (refine Q1b rfl _ _ 9 rfl Tryz.Z1r (u:=.string ⟨#[97,110,100]⟩) (g:=gg) (k:=k * 3 + 0) rfl rfl rfl rfl HBLK.out (by omega) ?_; intro w8 hb8 hl8 ho8; refine halted ?_)
           have HBS:=Lib.hid (HPUT.out _ 0 _ (by decide) (by rw [Y9m HNM.out,HNM.out]; rfl) hb8)
           have HE8:Hid (Ext w w8):=by exact (Below.trans HBEL.out (hl8 w.heap.size (by omega)):Ext w w8)
           have HS8:Hid (w5.heap.size ≤ w8.heap.size):=by exact (Nat.le_trans hsz (hl8 0 (Nat.zero_le _)).size:w5.heap.size ≤ w8.heap.size)
           have HO8:Hid (∀ b,b < w5.heap.size → b ≠ gg → w8.heap[b]? = w5.heap[b]?):=by exact (fun b hb hne=>(ho8 b hne).trans (HOTH.out b hb hne):∀ b,b < w5.heap.size → b ≠ gg → w8.heap[b]? = w5.heap[b]?)
           clear hb8 hl8 ho8 d2 e0 e1 e2;unfold Q3f;go_wp2;go_roundw
           case rel=>exact ⟨k + 1,by omega,by go_num,HBS.out,HE8.out,HS8.out,HO8.out⟩
           case measure=>simp [intOf]; omega
         · have hb2:=Q6r Y9f hk2
           have HK1:=Lib.hid hk1;have HK2:=Lib.hid hk2;have hw1:IntKind.i64.wrap ((ml.length:Int) + 1) = (ml.length:Int) + 1:=wrap_in (by omega) (by omega)
           have hw2:IntKind.i64.wrap ((ml.length:Int) + 1 - nd) = (ml.length:Int) + 1 - nd:=wrap_in (by omega) (by omega)
           have hdr:=(Ext.refl w6).drew;clear hk1 hk2;go_wp2;refine Flow.Q3v [.plain,.world,.plain,.plain,.world,.plain,.plain,.plain,.world,.plain,.plain,.plain,.world,.plain,.plain,.plain,.world,.plain,.plain,.plain,.last] [0,1,2,3,4,5,6,7,8,9,10,11,12,13,14,15,16,17,18,19,20] [[],[0],[],[],[3],[],[3,4,5],[3,4,5,6],[3,4,5,6,7],[3,4,5,6,7,8],[3,4,5,6,7,8,9],[],[11],[],[11,12,13],[11,12,13,14],[11,12,13,14,15],[3,4,5,6,7,8,9,10,11,12,13,14,15,16],[0,1,2,3,4,5,6,7,8,9,10,11,12,13,14,15,16,17],[0,1,2,3,4,5,6,7,8,9,10,11,12,13,14,15,16,17,18],[0,1,2,3,4,5,6,7,8,9,10,11,12,13,14,15,16,17,18,19]] [20]
            [.is 0 (fun v=>.pointer (some ⟨o,2,none⟩)),.is 1 (fun v=>.slice (some ⟨gg,0,none⟩) t.gates.length cg),.is 2 (fun v=>.int .i64 k),.is 3 (fun v=>.pointer (some ⟨o,2,none⟩)),.is 4 (fun v=>.slice (some ⟨gg,0,none⟩) t.gates.length cg),.is 5 (fun v=>.int .i64 k),.is 6 (fun v=>.pointer (some ⟨gg,k * 3,none⟩)),.is 7 (fun v=>.pointer (some ⟨gg,k * 3 + 2,none⟩)),.is 8 (fun v=>.slice A3 ml.length cap3),.is 9 (fun v=>.int .i64 ml.length),.is 10 (fun v=>.int .i64 ((ml.length:Int) + 1)),.is 11 (fun v=>.pointer (some ⟨o,2,none⟩)),.is 12 (fun v=>.slice (some ⟨gg,0,none⟩) t.gates.length cg),.is 13 (fun v=>.int .i64 k),.is 14 (fun v=>.pointer (some ⟨gg,k * 3,none⟩)),.is 15 (fun v=>.pointer (some ⟨gg,k * 3 + 1,none⟩)),.is 16 (fun v=>.int .i64 nd),.is 17 (fun v=>.int .i64 ((ml.length:Int) + 1 - nd)),.is 18 (fun v=>.pointer (some ⟨gg,k * 3,none⟩)),.is 19 (fun v=>.pointer (some ⟨gg,k * 3 + 1,none⟩)),.none]
            [fun v w1 w2=>Blk w2 gg 128 (cur'.setIfInBounds (k * 3 + 1) (.int .i64 ((ml.length:Int) + 1 - nd))) ∧ (∀ n,n ≤ gg → Below n w1 w2) ∧ ∀ k,k ≠ gg → w2.heap[k]? = w1.heap[k]?] (by kernel_rfl) rfl (by kernel_rfl) ⟨?g0,?g1,?g2,?g3,?g4,?g5,?g6,?g7,?g8,?g9,?g10,?g11,?g12,?g13,?g14,?g15,?g16,?g17,?g18,?g19,?g20,trivial⟩ ?post
           case g0 =>
            intro v w1 hx;intro bb hbb;subst hbb;refine ⟨_,fun w=>?_,rfl⟩;go_simp
           case g1 =>
            intro v w1 hx (q0:v 0 = .pointer (some ⟨o,2,none⟩));intro bb hbb;subst hbb;have n0:w1.cell? ⟨o,2,none⟩ = some (.slice (some ⟨gg,0,none⟩) t.gates.length cg):=(HB6.out.ext (hdr.trans hx)).cell 2;intro K hK;go_simp;exact hK _ _ (Ext.refl _) rfl
           case g2 =>
            intro v w1 hx;intro bb hbb;subst hbb;refine ⟨_,fun w=>?_,rfl⟩;go_simp
           case g3 =>
            intro v w1 hx;intro bb hbb;subst hbb;refine ⟨_,fun w=>?_,rfl⟩;go_simp
           case g4 =>
            intro v w1 hx (q3:v 3 = .pointer (some ⟨o,2,none⟩));intro bb hbb;subst hbb;have n0:w1.cell? ⟨o,2,none⟩ = some (.slice (some ⟨gg,0,none⟩) t.gates.length cg):=(HB6.out.ext (hdr.trans hx)).cell 2;intro K hK;go_simp;exact hK _ _ (Ext.refl _) rfl
           case g5 =>
            intro v w1 hx;intro bb hbb;subst hbb;refine ⟨_,fun w=>?_,rfl⟩;go_simp
           case g6 =>
            intro v w1 hx (q3:v 3 = .pointer (some ⟨o,2,none⟩)) (q4:v 4 = .slice (some ⟨gg,0,none⟩) t.gates.length cg) (q5:v 5 = .int .i64 k);intro bb hbb;subst hbb;refine ⟨_,fun w=>?_,rfl⟩;go_simp
           case g7 =>
            intro v w1 hx (q3:v 3 = .pointer (some ⟨o,2,none⟩)) (q4:v 4 = .slice (some ⟨gg,0,none⟩) t.gates.length cg) (q5:v 5 = .int .i64 k) (q6:v 6 = .pointer (some ⟨gg,k * 3,none⟩));intro bb hbb;subst hbb;refine ⟨_,fun w=>?_,rfl⟩;go_simp
           case g8 =>
            intro v w1 hx (q3:v 3 = .pointer (some ⟨o,2,none⟩)) (q4:v 4 = .slice (some ⟨gg,0,none⟩) t.gates.length cg) (q5:v 5 = .int .i64 k) (q6:v 6 = .pointer (some ⟨gg,k * 3,none⟩)) (q7:v 7 = .pointer (some ⟨gg,k * 3 + 2,none⟩));intro bb hbb;subst hbb;have n0:w1.cell? ⟨gg,k * 3 + 2,none⟩ = some (.slice A3 ml.length cap3):=(hdr.trans hx).cell e2;intro K hK;go_simp;exact hK _ _ (Ext.refl _) rfl
           case g9 =>
            intro v w1 hx (q3:v 3 = .pointer (some ⟨o,2,none⟩)) (q4:v 4 = .slice (some ⟨gg,0,none⟩) t.gates.length cg) (q5:v 5 = .int .i64 k) (q6:v 6 = .pointer (some ⟨gg,k * 3,none⟩)) (q7:v 7 = .pointer (some ⟨gg,k * 3 + 2,none⟩)) (q8:v 8 = .slice A3 ml.length cap3);intro bb hbb;subst hbb;refine ⟨_,fun w=>?_,rfl⟩;go_simp
           case g10 =>
            intro v w1 hx (q3:v 3 = .pointer (some ⟨o,2,none⟩)) (q4:v 4 = .slice (some ⟨gg,0,none⟩) t.gates.length cg) (q5:v 5 = .int .i64 k) (q6:v 6 = .pointer (some ⟨gg,k * 3,none⟩)) (q7:v 7 = .pointer (some ⟨gg,k * 3 + 2,none⟩)) (q8:v 8 = .slice A3 ml.length cap3) (q9:v 9 = .int .i64 ml.length);intro bb hbb;subst hbb;refine ⟨_,fun w=>?_,rfl⟩;go_simp
           case g11 =>
            intro v w1 hx;intro bb hbb;subst hbb;refine ⟨_,fun w=>?_,rfl⟩;go_simp
           case g12 =>
            intro v w1 hx (q11:v 11 = .pointer (some ⟨o,2,none⟩));intro bb hbb;subst hbb;have n0:w1.cell? ⟨o,2,none⟩ = some (.slice (some ⟨gg,0,none⟩) t.gates.length cg):=(HB6.out.ext (hdr.trans hx)).cell 2;intro K hK;go_simp;exact hK _ _ (Ext.refl _) rfl
           case g13 =>
            intro v w1 hx;intro bb hbb;subst hbb;refine ⟨_,fun w=>?_,rfl⟩;go_simp
           case g14 =>
            intro v w1 hx (q11:v 11 = .pointer (some ⟨o,2,none⟩)) (q12:v 12 = .slice (some ⟨gg,0,none⟩) t.gates.length cg) (q13:v 13 = .int .i64 k);intro bb hbb;subst hbb;refine ⟨_,fun w=>?_,rfl⟩;go_simp
           case g15 =>
            intro v w1 hx (q11:v 11 = .pointer (some ⟨o,2,none⟩)) (q12:v 12 = .slice (some ⟨gg,0,none⟩) t.gates.length cg) (q13:v 13 = .int .i64 k) (q14:v 14 = .pointer (some ⟨gg,k * 3,none⟩));intro bb hbb;subst hbb;refine ⟨_,fun w=>?_,rfl⟩;go_simp
           case g16 =>
            intro v w1 hx (q11:v 11 = .pointer (some ⟨o,2,none⟩)) (q12:v 12 = .slice (some ⟨gg,0,none⟩) t.gates.length cg) (q13:v 13 = .int .i64 k) (q14:v 14 = .pointer (some ⟨gg,k * 3,none⟩)) (q15:v 15 = .pointer (some ⟨gg,k * 3 + 1,none⟩));intro bb hbb;subst hbb;have n0:w1.cell? ⟨gg,k * 3 + 1,none⟩ = some (.int .i64 nd):=(hdr.trans hx).cell e1;intro K hK;go_simp;exact hK _ _ (Ext.refl _) rfl
           case g17 =>
            intro v w1 hx (q3:v 3 = .pointer (some ⟨o,2,none⟩)) (q4:v 4 = .slice (some ⟨gg,0,none⟩) t.gates.length cg) (q5:v 5 = .int .i64 k) (q6:v 6 = .pointer (some ⟨gg,k * 3,none⟩)) (q7:v 7 = .pointer (some ⟨gg,k * 3 + 2,none⟩)) (q8:v 8 = .slice A3 ml.length cap3) (q9:v 9 = .int .i64 ml.length) (q10:v 10 = .int .i64 ((ml.length:Int) + 1)) (q11:v 11 = .pointer (some ⟨o,2,none⟩)) (q12:v 12 = .slice (some ⟨gg,0,none⟩) t.gates.length cg) (q13:v 13 = .int .i64 k) (q14:v 14 = .pointer (some ⟨gg,k * 3,none⟩)) (q15:v 15 = .pointer (some ⟨gg,k * 3 + 1,none⟩)) (q16:v 16 = .int .i64 nd);intro bb hbb;subst hbb;refine ⟨_,fun w=>?_,rfl⟩;go_simp
           case g18 =>
            intro v w1 hx (q0:v 0 = .pointer (some ⟨o,2,none⟩)) (q1:v 1 = .slice (some ⟨gg,0,none⟩) t.gates.length cg) (q2:v 2 = .int .i64 k) (q3:v 3 = .pointer (some ⟨o,2,none⟩)) (q4:v 4 = .slice (some ⟨gg,0,none⟩) t.gates.length cg) (q5:v 5 = .int .i64 k) (q6:v 6 = .pointer (some ⟨gg,k * 3,none⟩)) (q7:v 7 = .pointer (some ⟨gg,k * 3 + 2,none⟩)) (q8:v 8 = .slice A3 ml.length cap3) (q9:v 9 = .int .i64 ml.length) (q10:v 10 = .int .i64 ((ml.length:Int) + 1)) (q11:v 11 = .pointer (some ⟨o,2,none⟩)) (q12:v 12 = .slice (some ⟨gg,0,none⟩) t.gates.length cg) (q13:v 13 = .int .i64 k) (q14:v 14 = .pointer (some ⟨gg,k * 3,none⟩)) (q15:v 15 = .pointer (some ⟨gg,k * 3 + 1,none⟩)) (q16:v 16 = .int .i64 nd) (q17:v 17 = .int .i64 ((ml.length:Int) + 1 - nd));intro bb hbb;subst hbb;refine ⟨_,fun w=>?_,rfl⟩;go_simp
           case g19 =>
            intro v w1 hx (q0:v 0 = .pointer (some ⟨o,2,none⟩)) (q1:v 1 = .slice (some ⟨gg,0,none⟩) t.gates.length cg) (q2:v 2 = .int .i64 k) (q3:v 3 = .pointer (some ⟨o,2,none⟩)) (q4:v 4 = .slice (some ⟨gg,0,none⟩) t.gates.length cg) (q5:v 5 = .int .i64 k) (q6:v 6 = .pointer (some ⟨gg,k * 3,none⟩)) (q7:v 7 = .pointer (some ⟨gg,k * 3 + 2,none⟩)) (q8:v 8 = .slice A3 ml.length cap3) (q9:v 9 = .int .i64 ml.length) (q10:v 10 = .int .i64 ((ml.length:Int) + 1)) (q11:v 11 = .pointer (some ⟨o,2,none⟩)) (q12:v 12 = .slice (some ⟨gg,0,none⟩) t.gates.length cg) (q13:v 13 = .int .i64 k) (q14:v 14 = .pointer (some ⟨gg,k * 3,none⟩)) (q15:v 15 = .pointer (some ⟨gg,k * 3 + 1,none⟩)) (q16:v 16 = .int .i64 nd) (q17:v 17 = .int .i64 ((ml.length:Int) + 1 - nd)) (q18:v 18 = .pointer (some ⟨gg,k * 3,none⟩));intro bb hbb;subst hbb;refine ⟨_,fun w=>?_,rfl⟩;go_simp
           case g20 =>
            intro v w1 hx (q0:v 0 = .pointer (some ⟨o,2,none⟩)) (q1:v 1 = .slice (some ⟨gg,0,none⟩) t.gates.length cg) (q2:v 2 = .int .i64 k) (q3:v 3 = .pointer (some ⟨o,2,none⟩)) (q4:v 4 = .slice (some ⟨gg,0,none⟩) t.gates.length cg) (q5:v 5 = .int .i64 k) (q6:v 6 = .pointer (some ⟨gg,k * 3,none⟩)) (q7:v 7 = .pointer (some ⟨gg,k * 3 + 2,none⟩)) (q8:v 8 = .slice A3 ml.length cap3) (q9:v 9 = .int .i64 ml.length) (q10:v 10 = .int .i64 ((ml.length:Int) + 1)) (q11:v 11 = .pointer (some ⟨o,2,none⟩)) (q12:v 12 = .slice (some ⟨gg,0,none⟩) t.gates.length cg) (q13:v 13 = .int .i64 k) (q14:v 14 = .pointer (some ⟨gg,k * 3,none⟩)) (q15:v 15 = .pointer (some ⟨gg,k * 3 + 1,none⟩)) (q16:v 16 = .int .i64 nd) (q17:v 17 = .int .i64 ((ml.length:Int) + 1 - nd)) (q18:v 18 = .pointer (some ⟨gg,k * 3,none⟩)) (q19:v 19 = .pointer (some ⟨gg,k * 3 + 1,none⟩));intro wl hT;obtain rfl:wl = w1:=hT;intro bb hbb;intro K hK;have o1:bb.eval (.tmp 83) = .pointer (some ⟨gg,k * 3 + 1,none⟩):=by rw [hbb]; dsimp only; (try simp (discharger:=decide) only [eval_put_ne]); rw [Q0a (by simp only [size_put]; exact (by decide:83 < 85))]; exact q19
            have o2:bb.eval (.tmp 81) = .int .i64 ((ml.length:Int) + 1 - nd):=by rw [hbb]; dsimp only; (try simp (discharger:=decide) only [eval_put_ne]); rw [Q0a (by simp only [size_put]; exact (by decide:81 < 85))]; exact q17
            have hbx:=HBLK.out.ext (hdr.trans hx);refine Q3a (.tmp 83) (.tmp 81) rfl Tryz.X9b o1 o2 rfl rfl hbx (by omega) (fun vv=>hK _ _ ⟨hbx.set _ _,fun n hn=>(Below.refl n _).setCell (p:=⟨gg,k * 3 + 1,none⟩) hn _,fun k' hk'=>Below.heap_setCell _ _ _ _ hk'⟩)
           case post =>
            intro v w1 hx (q0:v 0 = .pointer (some ⟨o,2,none⟩)) (q1:v 1 = .slice (some ⟨gg,0,none⟩) t.gates.length cg) (q2:v 2 = .int .i64 k) (q3:v 3 = .pointer (some ⟨o,2,none⟩)) (q4:v 4 = .slice (some ⟨gg,0,none⟩) t.gates.length cg) (q5:v 5 = .int .i64 k) (q6:v 6 = .pointer (some ⟨gg,k * 3,none⟩)) (q7:v 7 = .pointer (some ⟨gg,k * 3 + 2,none⟩)) (q8:v 8 = .slice A3 ml.length cap3) (q9:v 9 = .int .i64 ml.length) (q10:v 10 = .int .i64 ((ml.length:Int) + 1)) (q11:v 11 = .pointer (some ⟨o,2,none⟩)) (q12:v 12 = .slice (some ⟨gg,0,none⟩) t.gates.length cg) (q13:v 13 = .int .i64 k) (q14:v 14 = .pointer (some ⟨gg,k * 3,none⟩)) (q15:v 15 = .pointer (some ⟨gg,k * 3 + 1,none⟩)) (q16:v 16 = .int .i64 nd) (q17:v 17 = .int .i64 ((ml.length:Int) + 1 - nd)) (q18:v 18 = .pointer (some ⟨gg,k * 3,none⟩)) (q19:v 19 = .pointer (some ⟨gg,k * 3 + 1,none⟩));intro w2 hE;replace hE:(fun v w1 w2=>Blk w2 gg 128 (cur'.setIfInBounds (k * 3 + 1) (.int .i64 ((ml.length:Int) + 1 - nd))) ∧ (∀ n,n ≤ gg → Below n w1 w2) ∧ ∀ k,k ≠ gg → w2.heap[k]? = w1.heap[k]?) v w1 w2:=hE;simp only [Flow.acts,Act.put];go_simp;obtain ⟨hb8,hlow,hot6⟩:=hE;have hxx:=hdr.trans hx;have HBS:=Lib.hid (HPUT.out _ 1 _ (by decide) (by rw [X8k (by rw [HNM.out]; exact HK1.out) (by rw [HNM.out]; exact HK2.out),HML.out,HND.out]; rfl) hb8)
            have HE8:Hid (Ext w w2):=by exact (Below.trans (HBEL.out.trans hxx) (hlow w.heap.size (by omega)):Ext w w2)
            have HS8:Hid (w5.heap.size ≤ w2.heap.size):=by exact (Nat.le_trans hsz (Nat.le_trans hxx.size (hlow 0 (Nat.zero_le _)).size):w5.heap.size ≤ w2.heap.size)
            have HO8:Hid (∀ b,b < w5.heap.size → b ≠ gg → w2.heap[b]? = w5.heap[b]?):=by exact (fun b hb hne=>(hot6 b hne).trans ((hxx.block b (Nat.lt_of_lt_of_le hb hsz)).trans (HOTH.out b hb hne)):∀ b,b < w5.heap.size → b ≠ gg → w2.heap[b]? = w5.heap[b]?)
            clear hb8 hlow hot6 hxx hx hdr d2 e0 e1 e2 q0 q1 q2 q3 q4 q5 q6 q7 q8 q9 q10 q11 q12 q13 q14 q15 q16 q17 q18 q19;go_wp2;go_roundw
            case rel=>exact ⟨k + 1,by omega,by go_num,HBS.out,HE8.out,HS8.out,HO8.out⟩
            case measure=>simp [intOf]; omega
     · have e:k = t.gates.length:=by omega
       subst e;have HG7:=Lib.hid hown;have HX7:=Lib.hid hbel;have HBAS7:=Lib.hid (Q8u HBAS.out HBG.out (by decide) hoth)
       have HCAU7:=Lib.hid (Q8u HCAU.out HBG.out (by decide) hoth)
       have HB7:=Lib.hid (Q1p HB5.out (Q1i HB5.out HBG.out (by decide)) hoth)
       have HR7:=Lib.hid (Q1p HR5.out (Q1i HR5.out HBG.out (by decide)) hoth)
       have HM7:Hid (∀ i,i < t.causes.length → Q0q w6 0 3 (.int .i64) (mc i) (Q0c t.causes i)):=by exact (fun i hi=>Q3i (HM.out i hi) HBG.out (by decide) hoth:∀ i,i < t.causes.length → Q0q w6 0 3 (.int .i64) (mc i) (Q0c t.causes i))
       have HI7:Hid (∀ i,i < t.gates.length → Q0q w6 0 3 (.int .i64) (mg i) (Q0l t.gates i)):=by exact (fun i hi=>Q3i (HI.out i hi) HBG.out (by decide) hoth:∀ i,i < t.gates.length → Q0q w6 0 3 (.int .i64) (mg i) (Q0l t.gates i))
       have d2:=HB7.out.cell 2;simp only [List.getElem?_toArray,List.getElem?_cons_zero,List.getElem?_cons_succ] at d2;clear hown hbel hoth hsz;go_wp2_with (first | (refine Q0j rfl _ 26 rfl Tryz.Q2g Tryz.Q0x rfl HB7.out rfl ?_) | (refine Q0d rfl _ _ 26 rfl Tryz.Q0x rfl rfl HR7.out rfl rfl ?_ ?_; (focus (intro u hu; simp only [List.mem_cons,List.not_mem_nil,or_false] at hu; rcases hu with rfl | rfl | rfl <;> rfl)); intro w8 hb8 hl8 ho8))
       have f1:=Q2i HBAS7.out HR7.out (by decide) ho8
       have f2:=Q2i HCAU7.out HR7.out (by decide) ho8
       have f3:=Q2i HG7.out HR7.out (by decide) ho8
       have HM8:∀ i,i < t.causes.length → Q0f w8 (mc i) (Q0c t.causes i):=fun i hi=>(Q1m (HM7.out i hi) HR7.out (by decide) ho8).ints (HT.out.causes.short hi).2
       have HI8:∀ i,i < t.gates.length → Q0f w8 (mg i) (Q0l t.gates i):=fun i hi=>(Q1m (HI7.out i hi) HR7.out (by decide) ho8).ints (HT.out.gates.short hi).2
       refine bodyPost_ret (Q0o Tryz.results41 rfl hb8 Tryz.Q2g Tryz.Q0x rfl) rfl ?_;have hm8:∀ i,i < t.causes.length → Q0q w8 0 3 (.int .i64) (mc i) (Q0c t.causes i):=fun i hi=>Q1m (HM7.out i hi) HR7.out (by decide) ho8
       have hi8:∀ i,i < t.gates.length → Q0q w8 0 3 (.int .i64) (mg i) (Q0l t.gates i):=fun i hi=>Q1m (HI7.out i hi) HR7.out (by decide) ho8
       have hle:(t.gates.map Q6g).length = t.gates.length:=List.length_map _;have e:(List.range t.gates.length).map (gD t mg t.gates.length) = (List.range (t.gates.map Q6g).length).map fun i=>(Q2c (t.gates.map Q6g) i,Q2x (t.gates.map Q6g) i,mg i):=by
        rw [hle]
        apply List.map_congr_left
        intro i hi;rw [List.mem_range] at hi;obtain ⟨q1,q2,_⟩:=Q9k hi;rw [q1,q2];unfold gD;rw [if_pos hi]
       rw [e] at f3;unfold X4v;refine ⟨_,_,_,mc,mg,rfl,⟨Q2k f1 (Nat.zero_le _),Q2k f2 (Nat.zero_le _),Q2k f3 (Nat.zero_le _),hm8,fun i hi=>?_⟩,⟨?_,?_,?_⟩,Below.trans HX7.out (hl8 _ (by omega))⟩
       · replace hi:i < (t.gates.map Q6g).length:=hi
         rw [hle] at hi;show Q0q w8 0 3 (.int .i64) (mg i) (Q0l (t.gates.map Q6g) i);rw [(Q9k hi).2.2];exact hi8 i hi
       · refine X4o f1 (by rw [List.length_map]; omega) fun i hi=>?_
         rw [List.length_map] at hi;rw [(X7g hi).1];exact HT.out.basics.short hi
       · exact Q8l f2 HT.out.causes HM8
       · refine Y5m (base:=W.heap.size) (l:=t.gates.map Q6g) (mc:=mg) f3 (by omega) (fun i hi=>?_) fun i hi=>?_
         · rw [hle] at hi
           rw [(Q9k hi).1];exact X9a (HT.out.gates.short hi).1
         · rw [hle] at hi
           rw [(Q9k hi).2.2];exact HI8 i hi
end Go.Proofs
