/- Contract of the reference: Without. The dual of a tree without causes fails exactly if the tree does not with the other events. Plain law for FaultDuals. -/
import Derived.Test.YtmaejccjimkbiaaGreatDoorFx49
import Derived.Test.YtmaejccjimkbiaaGreatDoorFx46
import Derived.Test.YtmaejccjimkbiaaGreatDoorFx36
set_option linter.unusedVariables false
set_option linter.unusedSimpArgs false
set_option linter.constructorNameAsVariable false
namespace Go.Tw
open Go.RowKit Go.Flow
theorem Y9z {α:Type} {enc:α → List Value} (L:List α) (n j:Nat) {u:Value} (h:((L.take n).flatMap enc)[j]? = some u):(L.flatMap enc)[j]? = some u:=by
 conv=>lhs; rw [← List.take_append_drop n L,List.flatMap_append]
 have hj:=(List.getElem?_eq_some_iff.1 h).1;rw [List.getElem?_append_left hj];exact h
theorem Y9w {α:Type} {enc:α → List Value} {k:Nat} (hk:∀ x,(enc x).length = k) (L:List α) (n j:Nat) (hn:n ≤ L.length) {u:Value} (h:((L.drop n).flatMap enc)[j]? = some u):(L.flatMap enc)[n * k + j]? = some u:=by
 have e:((L.take n).flatMap enc).length = n * k:=by rw [Q4r hk,List.length_take]; congr 1; omega
 conv=>lhs; rw [← List.take_append_drop n L,List.flatMap_append]
 rw [List.getElem?_append_right (by omega),e,Nat.add_sub_cancel_left]
 exact h
theorem X1g {α:Type} {P:Program} {K:Value → World → Prop} {o:Oper} {a:Act} {w:World} (s x:Operand) (t:TypeId) (ho:o.op = .call { callee:=.builtin .append,args:=#[s,x],argTypes:=#[t,t] })
    (base:Nat) (e:TypeId) (i:TypeInfo) (z:Value) (k bytes:Nat) (ht:P.underlying t = some (.slice e)) (hi:P.info? e = some i) (hz:i.zero = some z) (hsize:i.size = k) (hby:i.bytes = bytes) (hzs:z.cells.size = k) (hk0:0 < k)
    (enc:α → List Value) (hk:∀ x,(enc x).length = k) (v:Value) (ys:List α) (hs:a.eval s = v) (hv:Q1o w v base e) (A:Option Addr) (c:Nat) (hx:a.eval x = .slice A ys.length c)
    (hA:0 < ys.length → ∃ ad,A = some ad ∧ ∀ j u,(ys.flatMap enc)[j]? = some u → w.cell? (ad.add j) = some u) (h1:∀ u ∈ ys.flatMap enc,u.oneCell' = true)
    (h63:ys.length ≤ 100000) (hb:bytes ≤ 1000) (hbase:base ≤ w.heap.size)
    (h:∀ v' w',Q1z w' base e k enc v' ys → Ext w w' → K v' w'):gives P K ((execOp a.eval o).run P w):=by
 obtain ⟨g,rfl,hbg,hg⟩:=hv;have hown:Q1z w base e k enc (.slice (some ⟨g,0,none⟩) 0 0) ([]:List α):=⟨by simp,.inr ⟨g,0,#[],rfl,hbg,hg,Nat.le_refl _,Nat.zero_le _,by simp,by simp⟩⟩
 rcases Nat.eq_zero_or_pos ys.length with h0 | h0
 · have e0:ys = []:=List.eq_nil_of_length_eq_zero h0
   subst e0;unfold execOp;simp only [ho,resolve,invoke,builtin,Sem.run_bind,Sem.run_pure,Result.andThen_ok,List.map_toArray,List.map_cons,List.map_nil,hs,hx];rw [List.length_nil,Q5i (P:=P) w t o.type e i ht hi _ A 0 0 c (Nat.le_refl _)];exact h _ _ hown (Ext.refl _)
 · obtain ⟨ad,rfl,hnews⟩:=hA h0
   have hbytes:ys.length * bytes ≤ 140737488355328:=by
    have:ys.length * bytes ≤ 100000 * 1000:=Nat.mul_le_mul h63 hb;omega
   obtain ⟨v',w',hr,h2,h3,h4⟩:=run_append_own (P:=P) w base t o.type e i z k bytes ht hi hz hsize hby hzs hk0 _ 0 (([]:List α).flatMap enc) hown ad ys.length c (ys.flatMap enc) (Q4r hk ys) hnews h1 (by unfold maxLen; omega) (by rw [Nat.zero_add]; exact hbytes) hbase
   have hgr:=run_append_grow (P:=P) w t o.type e i z ht hi hz ⟨g,0,none⟩ 0 0 [] (by simp) (by simp) ad ys.length c (ys.flatMap enc) (by rw [hsize]; exact Q4r hk ys) hnews (by omega) (by omega) (by rw [hby]; exact growslice_fits (by omega) (by rw [Nat.zero_add]; exact hbytes))
   rw [hr] at hgr;injection hgr with hv' hw';unfold execOp;simp only [ho,resolve,invoke,builtin,Sem.run_bind,Sem.run_pure,Result.andThen_ok,List.map_toArray,List.map_cons,List.map_nil,hs,hx,hr];refine h v' w' ?_ (by rw [hw']; exact ((Ext.refl w).drew).alloc _)
   unfold Q1z
   simpa using h2
theorem X5w {α:Type} {P:Program} {K:Value → World → Prop} {o:Oper} {a:Act} {w:World} (s x:Operand) (t:TypeId) (ho:o.op = .call { callee:=.builtin .append,args:=#[s,x],argTypes:=#[t,t] })
    (base:Nat) (e:TypeId) (i:TypeInfo) (z:Value) (k bytes:Nat) (ht:P.underlying t = some (.slice e)) (hi:P.info? e = some i) (hz:i.zero = some z) (hsize:i.size = k) (hby:i.bytes = bytes) (hzs:z.cells.size = k) (hk0:0 < k)
    (enc:α → List Value) (hk:∀ x,(enc x).length = k) (v:Value) (xs ys:List α) (hs:a.eval s = v) (hown:Q1z w base e k enc v xs) (A:Option Addr) (c:Nat) (hx:a.eval x = .slice A ys.length c)
    (hA:0 < ys.length → ∃ ad,A = some ad ∧ ∀ j u,(ys.flatMap enc)[j]? = some u → w.cell? (ad.add j) = some u) (h1:∀ u ∈ ys.flatMap enc,u.oneCell' = true)
    (h63:xs.length + ys.length ≤ 100000) (hb:bytes ≤ 1000) (hbase:base ≤ w.heap.size)
    (h:∀ v' w',Q1z w' base e k enc v' (xs ++ ys) → w.grownBy w' v.ownBlock → K v' w'):gives P K ((execOp a.eval o).run P w):=by
 rcases Nat.eq_zero_or_pos ys.length with h0 | h0
 · have e0:ys = []:=List.eq_nil_of_length_eq_zero h0
   subst e0;obtain ⟨b,c',rfl,hcap⟩:=hown.shape;unfold execOp;simp only [ho,resolve,invoke,builtin,Sem.run_bind,Sem.run_pure,Result.andThen_ok,List.map_toArray,List.map_cons,List.map_nil,hs,hx];rw [List.length_nil,Q5i (P:=P) w t o.type e i ht hi b A xs.length c' c hcap];exact h _ _ (by simpa using hown) ⟨rfl,rfl,rfl,Nat.le_refl _,fun _ _ _=>rfl⟩
 · obtain ⟨ad,rfl,hnews⟩:=hA h0
   have hbytes:(xs.length + ys.length) * bytes ≤ 140737488355328:=by
    have:(xs.length + ys.length) * bytes ≤ 100000 * 1000:=Nat.mul_le_mul h63 hb;omega
   obtain ⟨v',w',hr,h2,h3,h4⟩:=run_append_own (P:=P) w base t o.type e i z k bytes ht hi hz hsize hby hzs hk0 v xs.length (xs.flatMap enc) hown ad ys.length c (ys.flatMap enc) (Q4r hk ys) hnews h1 (by unfold maxLen; omega) hbytes hbase
   unfold execOp;simp only [ho,resolve,invoke,builtin,Sem.run_bind,Sem.run_pure,Result.andThen_ok,List.map_toArray,List.map_cons,List.map_nil,hs,hx,hr];refine h v' w' ?_ h3;unfold Q1z;rw [List.length_append,List.flatMap_append];exact h2
end Go.Tw
namespace Go.Proofs
open Go.RowKit Go.Tw Go.Flow
theorem X1d {l:List (ByteArray × Int × Value)} (h:∀ x ∈ l,x.2.2.oneCell' = true):∀ u ∈ l.flatMap enc3,u.oneCell' = true:=by
 intro u hu;obtain ⟨x,hx,hu⟩:=List.mem_flatMap.1 hu;simp only [enc3,List.mem_cons,List.not_mem_nil,or_false] at hu
 rcases hu with rfl | rfl | rfl
 · rfl
 · rfl
 · exact h x hx
theorem X5j {t:Tree} {mc:Nat → Value} {K:Nat} (hK:K < t.causes.length) :
    ((List.range t.causes.length).map (cF t mc)).take K ++ ((List.range t.causes.length).map (cF t mc)).drop (K + 1) = (List.range (t.causes.eraseIdx K).length).map fun i=>(cName (t.causes.eraseIdx K) i,Q1d (t.causes.eraseIdx K) i,mc (if i < K then i else i + 1)):=by
 apply List.ext_getElem
 · simp [List.length_eraseIdx,hK]; omega
 · intro i h1 h2
   have hi:i < (t.causes.eraseIdx K).length:=by simpa using h2
   simp only [List.getElem_map,List.getElem_range];unfold cName Q1d;rw [X0a _ _ _ hi,List.getElem_append]
   split
   · rename_i h
     have hi':i < K:=by simp at h; omega
     rw [if_pos hi'];simp [cF,cName,Q1d]
   · rename_i h
     have hi':¬ i < K:=by simp at h; omega
     rw [if_neg hi'];simp only [List.getElem_drop,List.getElem_map,List.getElem_range,List.length_take,List.length_map,List.length_range];have e:K + 1 + (i - min K t.causes.length) = i + 1:=by omega
     rw [e];rfl
set_option linter.unusedSimpArgs false in
set_option maxRecDepth 100000 in
set_option maxHeartbeats 4000000 in
theorem X9i (w:World) (v:Value) (t:Tree) (kn:Nat) (ht:IsTree w v t) (he:t.err = 0) (hkn:kn < t.causes.length) (hf:Few t) :
    Calls Tryz.prog 43 #[v,.int .i64 kn] w fun e w'=>∃ vb vc vg mc mg,e = .returned (.agg #[vb,vc,vg]) ∧ Y6w w' 0 ⟨t.basics,t.causes.eraseIdx kn,t.gates⟩ vb vc vg mc mg ∧ Q6u w' vb vc vg ⟨t.basics,t.causes.eraseIdx kn,t.gates⟩ ∧ Ext w w':=by
 obtain ⟨j0,ji,jz0,jz1,jz2⟩:=info_parts Tryz.Y8d;obtain ⟨a,b,c,rfl,h3⟩:=ht;obtain ⟨A,capa,rfl,hl1,hcap1,_⟩:=h3.basics.opened;obtain ⟨B,capb,rfl,hl2,hcap2,_⟩:=h3.causes.opened;obtain ⟨G,capg,rfl,hl3,hcap3,_⟩:=h3.gates.opened;have HT0:=Lib.hid h3;clear h3;have HV:=Lib.hid (Valid.of he);have hfit:=HV.out.fit;have HF:=Lib.hid hf;clear hf he;go_enter Tryz.func43,Tryz.ntmps43;go_wp2_with fail;change Calls _ _ _ ((w.alloc (.cells #[.slice A t.basics.length capa,.slice B t.causes.length capb,.slice G t.gates.length capg] 26)).alloc (.cells #[.slice none 0 0,.slice none 0 0,.slice none 0 0] 26)) _;have k0:=Blk.made w 26 #[.slice A t.basics.length capa,.slice B t.causes.length capb,.slice G t.gates.length capg];have x0:=Ext.box w (.cells #[.slice A t.basics.length capa,.slice B t.causes.length capb,.slice G t.gates.length capg] 26);have es0:(w.alloc (.cells #[.slice A t.basics.length capa,.slice B t.causes.length capb,.slice G t.gates.length capg] 26)).heap.size = w.heap.size + 1:=by simp
 obtain ⟨X0,hX0⟩:∃ X,w.alloc (.cells #[.slice A t.basics.length capa,.slice B t.causes.length capb,.slice G t.gates.length capg] 26) = X:=⟨_,rfl⟩;rw [hX0] at k0 x0 es0 ⊢;clear hX0;have k1:=Blk.made X0 26 #[.slice none 0 0,.slice none 0 0,.slice none 0 0];have x1:=Ext.box X0 (.cells #[.slice none 0 0,.slice none 0 0,.slice none 0 0] 26);have es1:(X0.alloc (.cells #[.slice none 0 0,.slice none 0 0,.slice none 0 0] 26)).heap.size = X0.heap.size + 1:=by simp
 obtain ⟨X1,hX1⟩:∃ X,X0.alloc (.cells #[.slice none 0 0,.slice none 0 0,.slice none 0 0] 26) = X:=⟨_,rfl⟩;rw [hX1] at k1 x1 es1 ⊢;clear hX1;replace k0:=k0.ext x1;have e0:X0.heap.size = w.heap.size + 1:=by omega
 have e1:X1.heap.size = w.heap.size + 1 + 1:=by omega
 rw [e0] at k1;have HXW:Hid (Ext w X1):=by exact (Ext.trans (x0) x1:Ext w X1)
 have eW:X1.heap.size = w.heap.size + 1 + 1:=e1;clear x0 es0 e0 x1 es1 e1;obtain ⟨W,hWW⟩:∃ W,X1 = W:=⟨_,rfl⟩;rw [hWW] at HXW eW ⊢ k0 k1;clear hWW;have HT:=Lib.hid (HT0.out.ext HXW.out);refine (X0n _ _ t ⟨_,_,_,rfl,HT.out⟩ HF.out HV.out.nb).mono ?_;rintro e w1 ⟨vb,vc,vg,mc,mg,rfl,hown,hx1⟩;have hW1:=hx1.size;have HX1:=Lib.hid (HXW.out.trans hx1);have HR:=Lib.hid (k1.ext hx1);replace HT:=Lib.hid (HT.out.ext hx1);have HOWN:=Lib.hid hown;clear k0 k1 hx1;obtain ⟨sb,cb,hsb,_⟩:=hown.bas.shape;obtain ⟨sc,cc,hsc,_⟩:=hown.cau.shape;obtain ⟨sg,cg,hsg,_⟩:=hown.gat.shape;simp only [List.length_map,List.length_range] at hsc hsg;subst hsb hsc hsg;clear hown;have hxb:=Ext.box w1 (.cells #[.slice sb t.basics.length cb,.slice sc t.causes.length cc,.slice sg t.gates.length cg] 26);go_upto_region 2 with fail;have HB:=Lib.hid (Blk.made w1 26 #[.slice sb t.basics.length cb,.slice sc t.causes.length cc,.slice sg t.gates.length cg]);replace HX1:=Lib.hid (HX1.out.trans hxb);replace HR:=Lib.hid (HR.out.ext hxb);replace HT:=Lib.hid (HT.out.ext hxb);replace HOWN:=Lib.hid (HOWN.out.ext hxb);have hbs:w1.heap.size < (w1.alloc (.cells #[.slice sb t.basics.length cb,.slice sc t.causes.length cc,.slice sg t.gates.length cg] 26)).heap.size:=HB.out.lt;obtain ⟨W1,hWW⟩:∃ X,w1.alloc (.cells #[.slice sb t.basics.length cb,.slice sc t.causes.length cc,.slice sg t.gates.length cg] 26) = X:=⟨_,rfl⟩;rw [hWW] at HX1 HR HT HOWN HB hbs ⊢;clear hWW hxb;obtain ⟨o,ho⟩:∃ o,w1.heap.size = o:=⟨_,rfl⟩;have hwo:w.heap.size + 1 < o:=by rw [← ho]; omega
 rw [ho] at HB hbs ⊢;clear ho;obtain ⟨g,cap,cur,hv,hb,hblk,hc,hm,hs,htk⟩:=Q6p HOWN.out.cau (by simp; omega)
 injection hv with hv1 hvl hv2;clear hvl;subst hv1 hv2;obtain ⟨L,hL⟩:∃ L,(List.range t.causes.length).map (cF t mc) = L:=⟨_,rfl⟩;have hll:L.length = t.causes.length:=by rw [← hL]; simp
 rw [hL] at htk;have HL:=Lib.hid hL;have HSRC:Hid (∀ w',Ext W1 w' → ∀ j u,(L.flatMap enc3)[j]? = some u → w'.cell? ⟨g,j,none⟩ = some u):=by
  refine Lib.hid (fun w' hx j u hj=>hx.cell ?_);have hjl:=(List.getElem?_eq_some_iff.1 hj).1;rw [Q4r Q0s] at hjl;rw [hblk.cell,← hj,← htk,List.getElem?_take,if_pos hjl,Array.getElem?_toList]
 have H1:Hid (∀ x ∈ L,x.2.2.oneCell' = true):=by
  refine Lib.hid (fun x hx=>?_);rw [← hL] at hx;obtain ⟨i,hi,rfl⟩:=List.mem_map.1 hx;exact Y4l (HOWN.out.mem i (List.mem_range.1 hi))
 obtain ⟨n,hn⟩:∃ n,t.causes.length = n:=⟨_,rfl⟩;rw [List.length_map,List.length_range] at hc;rw [hn] at hkn hll hc HB ⊢;have hn12:n ≤ 1000:=by rw [← hn]; exact hfit.nc
 have HNN:=Lib.hid hn;have hwk:IntKind.i64.wrap ((kn:Int) + 1) = (kn:Int) + 1:=wrap_in (by omega) (by omega)
 have hnc:n ≤ cc:=hc;have g1:¬ cc < kn + 1:=by omega
 have g2:¬ n < kn + 1:=by omega
 have g3:¬ cc < kn:=by omega
 have g4:(0:Int) ≤ (kn:Int) + 1:=by omega
 have g5:¬ (n:Int) < (kn:Int) + 1:=by omega
 have g6:((kn:Int) + 1).toNat = kn + 1:=by omega
 have hdr:=(Ext.refl W1).drew;clear hL hc hm hs htk hblk hn hfit;refine Flow.Q3v [.world,.plain,.world,.plain,.plain,.world,.plain,.world,.plain,.plain,.plain,.last,.last,.last] [0,1,2,3,4,5,6,7,8,9,10,11,12,13] [[],[],[1],[],[1,2,3],[0,1,2,3,4],[],[6],[],[8],[6,7,8,9],[0,1,2,3,4,5,6,7,8,9,10],[0,1,2,3,4,5,6,7,8,9,10,11],[0,1,2,3,4,5,6,7,8,9,10,11,12]] [11,12,13]
  [⟨fun v wz=>(fun v w'=>Q1o w' (v 0) W1.heap.size 82) v wz,fun _ _ _ hx h=>Q1o.ext h hx⟩,.is 1 (fun v=>.pointer (some ⟨o,1,none⟩)),.is 2 (fun v=>.slice (some ⟨g,0,none⟩) n cc),.is 3 (fun v=>.int .i64 kn),.is 4 (fun v=>.slice (some ⟨g,0,none⟩) kn cc),⟨fun v wz=>(fun v w'=>Q1z w' W1.heap.size 82 3 enc3 (v 5) (L.take kn)) v wz,fun _ _ _ hx h=>Q1z.below h hx⟩,.is 6 (fun v=>.pointer (some ⟨o,1,none⟩)),.is 7 (fun v=>.slice (some ⟨g,0,none⟩) n cc),.is 8 (fun v=>.int .i64 kn),.is 9 (fun v=>.int .i64 ((kn:Int) + 1)),.is 10 (fun v=>.slice (if cc = kn + 1 then some ⟨g,0,none⟩ else some ⟨g,(kn + 1) * 3,none⟩) (n - (kn + 1)) (cc - (kn + 1))),.none,.none,.none]
  [fun v w1 w'=>Q1z w' W1.heap.size 82 3 enc3 (v 11) (L.take kn ++ L.drop (kn + 1)) ∧ Below W1.heap.size w1 w',fun v w1 w'=>v 12 = .pointer (some ⟨o,1,none⟩) ∧ Q1z w' W1.heap.size 82 3 enc3 (v 11) (L.take kn ++ L.drop (kn + 1)) ∧ Below W1.heap.size w1 w',fun v w1 w'=>∃ x wm,Q1z wm W1.heap.size 82 3 enc3 x (L.take kn ++ L.drop (kn + 1)) ∧ Below W1.heap.size w1 wm ∧ w' = wm.setCell ⟨o,1,none⟩ x] (by kernel_rfl) rfl (by kernel_rfl) ⟨?g0,?g1,?g2,?g3,?g4,?g5,?g6,?g7,?g8,?g9,?g10,?g11,?g12,?g13,trivial⟩ ?post
 case g0 =>
  intro v w1 hx;intro bb hbb;subst hbb;intro K hK;go_simp;exact hK _ _ (Ext.box _ _) (Q1o.made _ _ _ (hdr.trans hx).size)
 case g1 =>
  intro v w1 hx;intro bb hbb;subst hbb;refine ⟨_,fun w=>?_,rfl⟩;go_simp
 case g2 =>
  intro v w1 hx (q1:v 1 = .pointer (some ⟨o,1,none⟩));intro bb hbb;subst hbb;have n0:w1.cell? ⟨o,1,none⟩ = some (.slice (some ⟨g,0,none⟩) n cc):=(HB.out.ext (hdr.trans hx)).cell 1;intro K hK;go_simp;exact hK _ _ (Ext.refl _) rfl
 case g3 =>
  intro v w1 hx;intro bb hbb;subst hbb;refine ⟨_,fun w=>?_,rfl⟩;go_simp
 case g4 =>
  intro v w1 hx (q1:v 1 = .pointer (some ⟨o,1,none⟩)) (q2:v 2 = .slice (some ⟨g,0,none⟩) n cc) (q3:v 3 = .int .i64 kn);intro bb hbb;subst hbb;refine ⟨_,fun w=>?_,rfl⟩;go_simp
 case g5 =>
  intro v w1 hx (q0:(fun v w'=>Q1o w' (v 0) W1.heap.size 82) v w1) (q1:v 1 = .pointer (some ⟨o,1,none⟩)) (q2:v 2 = .slice (some ⟨g,0,none⟩) n cc) (q3:v 3 = .int .i64 kn) (q4:v 4 = .slice (some ⟨g,0,none⟩) kn cc);intro bb hbb;intro K hK;have o1:bb.eval (.tmp 8) = v 0:=by rw [hbb]; dsimp only; (try simp (discharger:=decide) only [eval_put_ne]); rw [Q0a (by simp only [size_put]; exact (by decide:8 < 22))]
  have o2:bb.eval (.tmp 12) = .slice (some ⟨g,0,none⟩) kn cc:=by rw [hbb]; dsimp only; (try simp (discharger:=decide) only [eval_put_ne]); rw [Q0a (by simp only [size_put]; exact (by decide:12 < 22))]; exact q4
  have hkl:(L.take kn).length = kn:=by rw [List.length_take]; omega
  exact X1g _ _ 23 rfl W1.heap.size 82 j0 (.agg #[.string emp,.int .i64 0,.slice none 0 0]) 3 48 Tryz.underlying23 ji jz0 jz1 jz2 rfl (by decide) enc3 Q0s (v 0) (L.take kn) o1 q0 (some ⟨g,0,none⟩) cc (by rw [hkl]; exact o2) (fun _=>⟨_,rfl,fun j u hj=>by rw [addr_add,Nat.zero_add]; exact HSRC.out _ (hdr.trans hx) j u (Y9z _ _ _ hj)⟩) (X1d fun x hx=>H1.out x (List.mem_of_mem_take hx)) (by omega) (by decide) (hdr.trans hx).size (fun v' w' h1 hx2=>hK _ _ hx2 h1)
 case g6 =>
  intro v w1 hx;intro bb hbb;subst hbb;refine ⟨_,fun w=>?_,rfl⟩;go_simp
 case g7 =>
  intro v w1 hx (q6:v 6 = .pointer (some ⟨o,1,none⟩));intro bb hbb;subst hbb;have n0:w1.cell? ⟨o,1,none⟩ = some (.slice (some ⟨g,0,none⟩) n cc):=(HB.out.ext (hdr.trans hx)).cell 1;intro K hK;go_simp;exact hK _ _ (Ext.refl _) rfl
 case g8 =>
  intro v w1 hx;intro bb hbb;subst hbb;refine ⟨_,fun w=>?_,rfl⟩;go_simp
 case g9 =>
  intro v w1 hx (q8:v 8 = .int .i64 kn);intro bb hbb;subst hbb;refine ⟨_,fun w=>?_,rfl⟩;go_simp
 case g10 =>
  intro v w1 hx (q6:v 6 = .pointer (some ⟨o,1,none⟩)) (q7:v 7 = .slice (some ⟨g,0,none⟩) n cc) (q8:v 8 = .int .i64 kn) (q9:v 9 = .int .i64 ((kn:Int) + 1));intro bb hbb;subst hbb;refine ⟨_,fun w=>?_,rfl⟩;go_simp
 case g11 =>
  intro v w1 hx (q0:(fun v w'=>Q1o w' (v 0) W1.heap.size 82) v w1) (q1:v 1 = .pointer (some ⟨o,1,none⟩)) (q2:v 2 = .slice (some ⟨g,0,none⟩) n cc) (q3:v 3 = .int .i64 kn) (q4:v 4 = .slice (some ⟨g,0,none⟩) kn cc) (q5:(fun v w'=>Q1z w' W1.heap.size 82 3 enc3 (v 5) (L.take kn)) v w1) (q6:v 6 = .pointer (some ⟨o,1,none⟩)) (q7:v 7 = .slice (some ⟨g,0,none⟩) n cc) (q8:v 8 = .int .i64 kn) (q9:v 9 = .int .i64 ((kn:Int) + 1)) (q10:v 10 = .slice (if cc = kn + 1 then some ⟨g,0,none⟩ else some ⟨g,(kn + 1) * 3,none⟩) (n - (kn + 1)) (cc - (kn + 1)));intro wl hT;obtain rfl:wl = w1:=hT;intro bb hbb;intro K hK;have o1:bb.eval (.tmp 13) = v 5:=by rw [hbb]; dsimp only; (try simp (discharger:=decide) only [eval_put_ne]); rw [Q0a (by simp only [size_put]; exact (by decide:13 < 22))]
  have o2:bb.eval (.tmp 18) = .slice (if cc = kn + 1 then some ⟨g,0,none⟩ else some ⟨g,(kn + 1) * 3,none⟩) (n - (kn + 1)) (cc - (kn + 1)):=by rw [hbb]; dsimp only; (try simp (discharger:=decide) only [eval_put_ne]); rw [Q0a (by simp only [size_put]; exact (by decide:18 < 22))]; exact q10
  have hkl:(L.drop (kn + 1)).length = n - (kn + 1):=by rw [List.length_drop]; omega
  have hkt:(L.take kn).length = kn:=by rw [List.length_take]; omega
  exact X5w _ _ 23 rfl W1.heap.size 82 j0 (.agg #[.string emp,.int .i64 0,.slice none 0 0]) 3 48 Tryz.underlying23 ji jz0 jz1 jz2 rfl (by decide) enc3 Q0s (v 5) (L.take kn) (L.drop (kn + 1)) o1 q5 _ (cc - (kn + 1)) (by rw [hkl]; exact o2) (fun h0=>⟨⟨g,(kn + 1) * 3,none⟩,if_neg (by omega),fun j u hj=>by rw [addr_add]; exact HSRC.out _ (hdr.trans hx) _ u (Y9w Q0s _ _ _ (by omega) hj)⟩) (X1d fun x hx=>H1.out x (List.mem_of_mem_drop hx)) (by omega) (by decide) (hdr.trans hx).size (fun v' w' h1 h2=>hK _ _ ⟨h1,Below.grown (Below.refl _ _) h2 (hdr.trans hx).size (fun j hj=>(q5.lt j hj).1)⟩)
 case g12 =>
  intro v w1 hx (q0:(fun v w'=>Q1o w' (v 0) W1.heap.size 82) v w1) (q1:v 1 = .pointer (some ⟨o,1,none⟩)) (q2:v 2 = .slice (some ⟨g,0,none⟩) n cc) (q3:v 3 = .int .i64 kn) (q4:v 4 = .slice (some ⟨g,0,none⟩) kn cc) (q5:(fun v w'=>Q1z w' W1.heap.size 82 3 enc3 (v 5) (L.take kn)) v w1) (q6:v 6 = .pointer (some ⟨o,1,none⟩)) (q7:v 7 = .slice (some ⟨g,0,none⟩) n cc) (q8:v 8 = .int .i64 kn) (q9:v 9 = .int .i64 ((kn:Int) + 1)) (q10:v 10 = .slice (if cc = kn + 1 then some ⟨g,0,none⟩ else some ⟨g,(kn + 1) * 3,none⟩) (n - (kn + 1)) (cc - (kn + 1)));intro wl hT;replace hT:(fun v w1 w'=>Q1z w' W1.heap.size 82 3 enc3 (v 11) (L.take kn ++ L.drop (kn + 1)) ∧ Below W1.heap.size w1 w') v w1 wl:=hT;intro bb hbb;subst hbb;intro K hK;go_simp;exact hK _ _ ⟨rfl,hT⟩
 case g13 =>
  intro v w1 hx (q0:(fun v w'=>Q1o w' (v 0) W1.heap.size 82) v w1) (q1:v 1 = .pointer (some ⟨o,1,none⟩)) (q2:v 2 = .slice (some ⟨g,0,none⟩) n cc) (q3:v 3 = .int .i64 kn) (q4:v 4 = .slice (some ⟨g,0,none⟩) kn cc) (q5:(fun v w'=>Q1z w' W1.heap.size 82 3 enc3 (v 5) (L.take kn)) v w1) (q6:v 6 = .pointer (some ⟨o,1,none⟩)) (q7:v 7 = .slice (some ⟨g,0,none⟩) n cc) (q8:v 8 = .int .i64 kn) (q9:v 9 = .int .i64 ((kn:Int) + 1)) (q10:v 10 = .slice (if cc = kn + 1 then some ⟨g,0,none⟩ else some ⟨g,(kn + 1) * 3,none⟩) (n - (kn + 1)) (cc - (kn + 1)));intro wl hT;replace hT:(fun v w1 w'=>v 12 = .pointer (some ⟨o,1,none⟩) ∧ Q1z w' W1.heap.size 82 3 enc3 (v 11) (L.take kn ++ L.drop (kn + 1)) ∧ Below W1.heap.size w1 w') v w1 wl:=hT;intro bb hbb;intro K hK;obtain ⟨hT0,hT1,hT2⟩:=hT;have hxx:=hdr.trans hx;obtain ⟨bp,cp,hsh,_⟩:=hT1.shape;have o1:bb.eval (.tmp 20) = .pointer (some ⟨o,1,none⟩):=by rw [hbb]; dsimp only; (try simp (discharger:=decide) only [eval_put_ne]); rw [Q0a (by simp only [size_put]; exact (by decide:20 < 22))]; exact hT0
  have o2:bb.eval (.tmp 19) = v 11:=by rw [hbb]; dsimp only; (try simp (discharger:=decide) only [eval_put_ne]); rw [Q0a (by simp only [size_put]; exact (by decide:19 < 22))]
  have hbl:Blk wl o 26 #[.slice sb t.basics.length cb,.slice (some ⟨g,0,none⟩) n cc,.slice sg t.gates.length cg]:=by have h:=HB.out.ext hxx; unfold Blk at h ⊢; rw [Below.block hT2 o hbs]; exact h
  exact Q3a _ _ rfl Tryz.X0s (g:=o) (k:=1) o1 o2 (by rw [hsh]; rfl) (by rw [hsh]; rfl) hbl (by show 1 < 3; omega) (fun v'=>hK _ _ ⟨v 11,wl,hT1,hT2,rfl⟩)
 case post =>
  intro v w1 hx (q0:(fun v w'=>Q1o w' (v 0) W1.heap.size 82) v w1) (q1:v 1 = .pointer (some ⟨o,1,none⟩)) (q2:v 2 = .slice (some ⟨g,0,none⟩) n cc) (q3:v 3 = .int .i64 kn) (q4:v 4 = .slice (some ⟨g,0,none⟩) kn cc) (q5:(fun v w'=>Q1z w' W1.heap.size 82 3 enc3 (v 5) (L.take kn)) v w1) (q6:v 6 = .pointer (some ⟨o,1,none⟩)) (q7:v 7 = .slice (some ⟨g,0,none⟩) n cc) (q8:v 8 = .int .i64 kn) (q9:v 9 = .int .i64 ((kn:Int) + 1)) (q10:v 10 = .slice (if cc = kn + 1 then some ⟨g,0,none⟩ else some ⟨g,(kn + 1) * 3,none⟩) (n - (kn + 1)) (cc - (kn + 1)));intro w2 hE;replace hE:(fun v w1 w'=>∃ x wm,Q1z wm W1.heap.size 82 3 enc3 x (L.take kn ++ L.drop (kn + 1)) ∧ Below W1.heap.size w1 wm ∧ w' = wm.setCell ⟨o,1,none⟩ x) v w1 w2:=hE;simp only [Flow.acts,Act.put];go_simp;obtain ⟨x,wm,hom,hgm,rfl⟩:=hE;have hxx:Ext W1 wm:=Below.trans (hdr.trans hx) hgm;obtain ⟨bx,cx,rfl,_⟩:=hom.shape;have hbm:=HB.out.ext hxx;have hoth:∀ k,k ≠ o → (wm.setCell ⟨o,1,none⟩ (.slice bx (L.take kn ++ L.drop (kn + 1)).length cx)).heap[k]? = wm.heap[k]?:=fun k' hk'=>Below.heap_setCell _ _ _ _ hk';have HB6:Hid (Blk (wm.setCell ⟨o,1,none⟩ (.slice bx (L.take kn ++ L.drop (kn + 1)).length cx)) o 26 #[.slice sb t.basics.length cb,.slice bx (L.take kn ++ L.drop (kn + 1)).length cx,.slice sg t.gates.length cg]):=by exact (hbm.set 1 _:Blk (wm.setCell ⟨o,1,none⟩ (.slice bx (L.take kn ++ L.drop (kn + 1)).length cx)) o 26 #[.slice sb t.basics.length cb,.slice bx (L.take kn ++ L.drop (kn + 1)).length cx,.slice sg t.gates.length cg])
  have HC6:=Lib.hid (hom.setCell (p:=⟨o,1,none⟩) hbs (.slice bx (L.take kn ++ L.drop (kn + 1)).length cx));have HBB:=Lib.hid (Q2i (HOWN.out.bas.below hxx) hbm (by decide) hoth)
  have HBG:=Lib.hid (Q2i (HOWN.out.gat.below hxx) hbm (by decide) hoth)
  have HM:=Lib.hid (fun i (hi:i < t.causes.length)=>Q1m ((HOWN.out.mem i hi).below hxx) hbm (by decide) hoth)
  have HI:=Lib.hid (fun i (hi:i < t.gates.length)=>Q1m ((HOWN.out.inp i hi).below hxx) hbm (by decide) hoth)
  have HR6:=Lib.hid ((HR.out.ext hxx).only (by omega) hoth)
  have HX6:Hid (Ext w (wm.setCell ⟨o,1,none⟩ (.slice bx (L.take kn ++ L.drop (kn + 1)).length cx))):=by exact ((HX1.out.trans hxx).setCell (p:=⟨o,1,none⟩) (by show w.heap.size ≤ o; omega) _:Ext w (wm.setCell ⟨o,1,none⟩ (.slice bx (L.take kn ++ L.drop (kn + 1)).length cx)))
  obtain ⟨w6,hw6⟩:∃ y,wm.setCell ⟨o,1,none⟩ (.slice bx (L.take kn ++ L.drop (kn + 1)).length cx) = y:=⟨_,rfl⟩;rw [hw6] at HB6 HC6 HBB HBG HM HI HR6 HX6 ⊢;generalize (if cc = kn + 1 then (some ⟨g,0,none⟩:Option Addr) else some ⟨g,(kn + 1) * 3,none⟩) = A13
  clear hw6 hoth hom hgm hxx hx hdr hbm q0 q1 q2 q3 q4 q5 q6 q7 q8 q9 q10 g1 g2 g3 g4 g5 g6 hwk;go_wp2_with (first | (refine Q0j rfl _ 26 rfl Tryz.Q2g Tryz.Q0x rfl HB6.out rfl ?_) | (refine Q0d rfl _ _ 26 rfl Tryz.Q0x rfl rfl HR6.out rfl rfl ?_ ?_; (focus (intro u hu; simp only [List.mem_cons,List.not_mem_nil,or_false] at hu; rcases hu with rfl | rfl | rfl <;> rfl)); intro w8 hb8 hl8 ho8))
  have f1:=Q2i HBB.out HR6.out (by decide) ho8
  have f2:=Q2i HC6.out HR6.out (by decide) ho8
  have f3:=Q2i HBG.out HR6.out (by decide) ho8
  have HM8:∀ i,i < t.causes.length → Q0f w8 (mc i) (Q0c t.causes i):=fun i hi=>(Q1m (HM.out i hi) HR6.out (by decide) ho8).ints (HT.out.causes.short hi).2
  have HI8:∀ i,i < t.gates.length → Q0f w8 (mg i) (Q0l t.gates i):=fun i hi=>(Q1m (HI.out i hi) HR6.out (by decide) ho8).ints (HT.out.gates.short hi).2
  refine bodyPost_ret (Q3h Tryz.results43 rfl hb8 Tryz.Q2g Tryz.Q0x) rfl ?_;have hkt:kn < t.causes.length:=by rw [HNN.out]; exact hkn
  have hlen:(t.causes.eraseIdx kn).length + 1 = t.causes.length:=by rw [List.length_eraseIdx,if_pos hkt]; omega
  have hpos:∀ i,i < (t.causes.eraseIdx kn).length → (if i < kn then i else i + 1) < t.causes.length:=fun i hi=>by split <;> omega
  have hm8:∀ i,i < t.causes.length → Q0q w8 0 3 (.int .i64) (mc i) (Q0c t.causes i):=fun i hi=>Q1m (HM.out i hi) HR6.out (by decide) ho8
  have hi8:∀ i,i < t.gates.length → Q0q w8 0 3 (.int .i64) (mg i) (Q0l t.gates i):=fun i hi=>Q1m (HI.out i hi) HR6.out (by decide) ho8
  refine ⟨_,_,_,fun i=>mc (if i < kn then i else i + 1),mg,rfl,⟨Q2k f1 (Nat.zero_le _),?_,Q2k f3 (Nat.zero_le _),fun i hi=>?_,hi8⟩,⟨Q8p f1 HT.out.basics,?_,Q8c f3 HT.out.gates HI8⟩,Below.trans HX6.out (hl8 _ (by omega))⟩
  · show Q1z w8 0 82 3 enc3 _ ((List.range (t.causes.eraseIdx kn).length).map fun i=>(cName (t.causes.eraseIdx kn) i,Q1d (t.causes.eraseIdx kn) i,mc (if i < kn then i else i + 1)))
    rw [← X5j hkt,HL.out];exact Q2k f2 (Nat.zero_le _)
  · replace hi:i < (t.causes.eraseIdx kn).length:=hi
    have h:=hm8 _ (hpos i hi);unfold Q0c at h ⊢;rw [X0a _ _ _ hi];exact h
  refine X5b (base:=W1.heap.size) (l:=t.causes.eraseIdx kn) (mc:=fun i=>mc (if i < kn then i else i + 1)) ?_ (by have:=HNN.out; omega) (fun i hi=>?_) fun i hi=>?_
  · rw [← X5j hkt,HL.out]
    exact f2
  · have h:=(HT.out.causes.short (hpos i hi)).1
    unfold cName at h ⊢;rw [X0a _ _ _ hi];exact h
  · have h:=HM8 _ (hpos i hi)
    unfold Q0c at h ⊢;rw [X0a _ _ _ hi];exact h
end Go.Proofs
namespace Go.Proofs
open Go.Tw
def X4v (t:Tree):Tree:=⟨t.basics.map X1n,t.causes,t.gates.map Q6g⟩
end Go.Proofs
