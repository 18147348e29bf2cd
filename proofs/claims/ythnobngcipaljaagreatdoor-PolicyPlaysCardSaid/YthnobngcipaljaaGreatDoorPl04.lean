/- Contract of the reference: Flip. What the law PolicyPlays needs: the answers of Flip and Play case by case; lists that outlast a store. Contracts of the reference: OnlyPolicy, CheckPolicy. Contract of the reference: Alone. Contracts: Weight of the program; what is needed of it. -/
import Derived.Test.YthnobngcipaljaaGreatDoorPp35
import Derived.Test.YthnobngcipaljaaGreatDoorPl02
import Derived.Test.YthnobngcipaljaaGreatDoorPl03
import Derived.Test.YthnobngcipaljaaGreatDoorPl01
set_option maxRecDepth 1000000
set_option maxHeartbeats 64000000
set_option linter.unusedVariables false
set_option linter.unusedSimpArgs false
set_option linter.constructorNameAsVariable false
open Go.Lib (hid)
namespace Go.Proofs
open Go.RowKit Go.Tw Go.Flow
attribute [local go_sem] Oper.semAt_some
theorem J6h (p:List Rul) (n:Nat) {k:Nat} (hk:k < p.length):(J2n p n).take (k + 1)=(J2n p n).take k ++ [⟨Q0n p k,Q3p p k != (k == n)⟩]:=by
 have hl:k < (J2n p n).length:=by rw [J2x]; exact hk
 rw [List.take_succ_eq_append_getElem hl];have e:(J2n p n)[k]=⟨Q0n p k,Q3p p k != (k == n)⟩:=by simp [J2n]
 rw [e]
theorem J7f {w:World} {v:Value} {l:List Int} (h:Q0d w v l):Src w (Value.int .i64) v l:=by
 obtain ⟨A,cap,rfl,hl,hcap,hc⟩:=h.opened;exact ⟨A,cap,rfl,fun j hj=>by
  obtain ⟨b,off,he,hcell⟩:=hc j hj;exact ⟨b,off,he,by rw [hcell,Q4s hj]⟩⟩
theorem J6m (w:World) (v:Value) (p:List Rul) (m:Nat) (hv:Q0w w v p) (hl:p.length <= 4096) (h8:∀ k,k < p.length -> (Q0n p k).length <= 4096) :
    Calls Tryz.prog 59 #[v,.int .i64 (m:Int)] w fun e w'=>∃ x,e=.returned x /\ J2d 115 w w' x (J2n p m) /\ Ext w w':=by
 obtain ⟨i0,hi,hz0,hz1,hz2⟩:=info_parts Tryz.Z9v;obtain ⟨j0,hj,jz0,jz1,jz2⟩:=info_parts Tryz.info3;obtain ⟨a,rfl,h2⟩:=hv;obtain ⟨A,cap,rfl,-,hcap,hc⟩:=h2.opened;have HC:=hid hc;have HTK:Hid (∀ k,k < p.length -> (J2n p m).take (k + 1)=(J2n p m).take k ++ [⟨Q0n p k,Q3p p k != (k == m)⟩]):=fun k hk=>J6h p m hk;have HP:=hid (J2x p m);obtain ⟨n,hn⟩:∃ n,p.length=n:=⟨_,rfl⟩;rw [hn] at hl HC h8 HTK HP ⊢;have H8:=hid h8;clear h2 hc hn hcap h8;go_enter Tryz.func59,Tryz.ntmps59;go_wp2_with fail;obtain ⟨W,hWW,k0,k1,k2,HXW,eW⟩:=X2z w 47 #[.slice A n cap] 47 #[.slice none 0 0] 47 #[.slice none 0 0];rw [hWW];clear hWW;obtain ⟨gs,hgs⟩:∃ x,w.heap.size=x:=⟨_,rfl⟩;have HGS:=hid hgs;rw [hgs] at k0 k1 k2 eW ⊢;have K0:=hid k0;have K1:=hid k1;clear k0 k1 hgs;obtain ⟨gp,hgp⟩:∃ x,gs + 1 + 1=x:=⟨_,rfl⟩;have HGP:=hid hgp;rw [hgp] at k2 eW ⊢;clear hgp
 go_loopw [6] (fun i wr=>∃ (k:Nat) (vo:Value) (qs:List (Value × Rul)),k <= n /\ i=.int .i64 k /\ Blk wr gp 47 #[vo] /\ Q0z wr (gp + 1) 115 2 X8h vo qs /\ qs.map (·.2)=(J2n p m).take k /\ RuR wr qs /\ Below gp W wr /\ gp + 1 <= wr.heap.size) (fun i _=>n - (intOf i).toNat)
 case atStart=>exact ⟨0,_,[],Nat.zero_le _,rfl,k2,Q0z.nil _ _ _ _ _,rfl,(fun q hq=>by simp at hq),Below.refl _ _,by omega⟩
 case round =>
  obtain ⟨k,vo,qs,hk,rfl,hbo,hown,hqs,hru,hlow,hsz⟩:=hrel;have hxr:Ext w wr:=Below.trans HXW.out (hlow.mono (by have:=HGS.out; have:=HGP.out; omega))
  have hqk:qs.length=k:=by rw [<- List.length_map (f:=(·.2)),hqs,List.length_take,HP.out]; omega
  have HQS:=hid hqs;have HLO:=hid hlow;have HRU:=hid hru;have HBO:=hid hbo;have HOW:=hid hown;have HK0:=hid (K0.out.below hlow (by have:=HGP.out; omega))
  have c0:wr.cell? ⟨gs,0,none⟩=some (.slice A n cap):=HK0.out.cell 0
  by_cases hlt:k < n
  . have hkI:(k:Int) < n:=by omega
    obtain ⟨b,off,x,rfl,hb,e0,e1,hi0⟩:=HC.out k hlt;replace e0:=hxr.cell e0;replace e1:=hxr.cell e1;obtain ⟨X,capx,rfl,-,-,-⟩:=hi0.opened;have hl8:=H8.out k hlt;have htk:=HTK.out k hlt;have HI:=hid (hi0.ext hxr);obtain ⟨cs,hcs⟩:∃ c,Q0n p k=c:=⟨_,rfl⟩;obtain ⟨cb,hcb⟩:∃ c,Q3p p k=c:=⟨_,rfl⟩;obtain ⟨qe,hqe⟩:∃ z,(k == m)=z:=⟨_,rfl⟩;obtain ⟨q,hq⟩:∃ z,(cb != qe)=z:=⟨_,rfl⟩;rw [hcs] at e0 HI hl8 htk;rw [hcb] at e1 htk;rw [hqe,hq] at htk;have HTK1:=hid htk;have HQE:Hid (((k:Int) == (m:Int))=qe):=hid (by rw [<- hqe,Bool.eq_iff_iff,beq_iff_eq,beq_iff_eq]; omega)
    have HQQ:=hid hq;have HE0:=hid e0;have HE1:=hid e1;have HXR:=hid hxr;obtain ⟨wq,rfl⟩:∃ Z,Z=wr:=⟨_,rfl⟩;have hdr:=(Ext.refl wq).drew;clear hqs hru hlow hxr hi0 htk hcs hcb hbo hown hqe hq e0 e1 hb;go_wp2_with fail;clear c0;refine Flow.Q4m [.p,.w,.w,.p,.w,.p,.p,.p,.w,.w,.p,.w,.p,.p,.p,.w,.p,.p,.p,.p,.p,.w,.last,.last,.last] [0,1,2,3,4,5,6,7,8,9,10,11,12,13,14,15,16,17,18,19,20,21,22,23,24] [[],[0],[],[],[3],[],[3,4,5],[3,4,5,6],[3,4,5,6,7],[2,3,4,5,6,7,8],[],[10],[],[10,11,12],[10,11,12,13],[10,11,12,13,14],[],[],[16,17],[10,11,12,13,14,15,16,17,18],[2,3,4,5,6,7,8,9,10,11,12,13,14,15,16,17,18,19],[2,3,4,5,6,7,8,9,10,11,12,13,14,15,16,17,18,19,20],[0,1,2,3,4,5,6,7,8,9,10,11,12,13,14,15,16,17,18,19,20,21],[0,1,2,3,4,5,6,7,8,9,10,11,12,13,14,15,16,17,18,19,20,21,22],[0,1,2,3,4,5,6,7,8,9,10,11,12,13,14,15,16,17,18,19,20,21,22,23]] [22,23,24]
     [.c 0 (.pointer (some ⟨gp,0,none⟩)),.c 1 (vo),⟨fun v wz=>X0u wz (v 2) wq.heap.size 3,fun _ _ _ hx h=>h.ext hx⟩,.c 3 (.pointer (some ⟨gs,0,none⟩)),.c 4 (.slice (some ⟨b,off,none⟩) n cap),.c 5 (.int .i64 (k:Int)),.c 6 (.pointer (some ⟨b,off + k * 2,none⟩)),.c 7 (.pointer (some ⟨b,off + k * 2,none⟩)),.c 8 (.slice X cs.length capx),⟨fun v wz=>(fun v w'=>Q0q w' 0 3 (.int .i64) (v 9) cs) v wz,by intro v a b hx h; exact Q0q.below h hx⟩,.c 10 (.pointer (some ⟨gs,0,none⟩)),.c 11 (.slice (some ⟨b,off,none⟩) n cap),.c 12 (.int .i64 (k:Int)),.c 13 (.pointer (some ⟨b,off + k * 2,none⟩)),.c 14 (.pointer (some ⟨b,off + k * 2 + 1,none⟩)),.c 15 (.bool cb),.c 16 (.int .i64 (k:Int)),.c 17 (.int .i64 (m:Int)),.c 18 (.bool qe),.c 19 (.bool q),⟨fun v wz=>(fun v w'=>v 20=.agg #[v 9,.bool q]) v wz,by intro _ _ _ _ h; exact h⟩,⟨fun v wz=>(fun v w'=>∃ g,v 21=.slice (some ⟨g,0,none⟩) 1 1 /\ Blk w' g 115 (X8h (v 9,⟨cs,q⟩)).toArray) v wz,by rintro v a b hx ⟨g,h1,h2⟩; exact ⟨g,h1,h2.ext hx⟩⟩,.none,.none,.none]
     [fun v w1 w'=>Q0z w' (gp + 1) 115 2 X8h (v 22) (qs ++ [(v 9,⟨cs,q⟩)]) /\ w1.grownBy w' vo.ownBlock,fun v w1 w'=>v 23=.pointer (some ⟨gp,0,none⟩) /\ Q0z w' (gp + 1) 115 2 X8h (v 22) (qs ++ [(v 9,⟨cs,q⟩)]) /\ w1.grownBy w' vo.ownBlock,fun v w1 w'=>∃ x wm,Q0z wm (gp + 1) 115 2 X8h x (qs ++ [(v 9,⟨cs,q⟩)]) /\ w1.grownBy wm vo.ownBlock /\ w'=wm.setCell ⟨gp,0,none⟩ x] (by kernel_rfl) rfl (by kernel_rfl) ⟨?g0,?g1,?g2,?g3,?g4,?g5,?g6,?g7,?g8,?g9,?g10,?g11,?g12,?g13,?g14,?g15,?g16,?g17,?g18,?g19,?g20,?g21,?g22,?g23,?g24,trivial⟩ ?post
    case g0 | g3 | g5 | g10 | g12 | g16 | g17=>
     intro v w1 hx;intro bb hbb;subst hbb;refine ⟨_,fun w=>?_,rfl⟩;go_simp
    case g1 | g4 | g11=>
     intro v w1 hx;(repeat intro (zq:v _=_));intro bb hbb;subst hbb;have n0:w1.cell? ⟨gp,0,none⟩=some vo:=(HBO.out.ext (hdr.trans hx)).cell 0;have n1:w1.cell? ⟨gs,0,none⟩=some (.slice (some ⟨b,off,none⟩) n cap):=(HK0.out.ext (hdr.trans hx)).cell 0;intro K hK;go_simp;exact hK _ _ (Ext.refl _) rfl
    case g2=>
     intro v w1 hx;intro bb hbb;subst hbb;intro K hK;go_simp;exact hK _ _ (Ext.box _ _) (X0u.made _ _ _ (hdr.trans hx).size)
    case g6 | g7 | g13 | g14=>
     intro v w1 hx;(repeat intro (zq:v _=_));intro bb hbb;subst hbb;refine ⟨_,fun w=>?_,rfl⟩;go_simp
    case g8=>
     intro v w1 hx;(repeat intro (zq:v _=_));intro bb hbb;subst hbb;have n0:=(hdr.trans hx).cell HE0.out;intro K hK;go_simp;exact hK _ _ (Ext.refl _) rfl
    case g9=>
     intro v w1 hx (q2:X0u w1 (v 2) wq.heap.size 3) (q3:v 3=_) (q4:v 4=_) (q5:v 5=_) (q6:v 6=_) (q7:v 7=_) (q8:v 8=_);intro bb hbb;intro K hK;have o1:bb.eval (.tmp 16)=v 2:=by rw [hbb]; dsimp only; (try simp (discharger:=decide) only [eval_put_ne]); rw [Q0a (by simp only [size_put]; exact (by decide:16 < 39))]
     have o2:bb.eval (.tmp 22)=.slice X cs.length capx:=by rw [hbb]; dsimp only; (try simp (discharger:=decide) only [eval_put_ne]); rw [Q0a (by simp only [size_put]; exact (by decide:22 < 39))]; exact q8
     exact J2m (.tmp 16) (.tmp 22) 22 rfl wq.heap.size 3 j0 (.int .i64 0) 8 Tryz.underlying22 hj jz0 jz1 jz2 rfl (Value.int .i64) (v 2) (.slice X cs.length capx) cs o1 q2 o2 (J7f (HI.out.ext (hdr.trans hx))) (fun _ _=>rfl) (by omega) (by decide) (hdr.trans hx).size (fun v' w' hown hx2=>hK _ _ hx2 (Q0q.weaken hown (Nat.zero_le _)))
    case g15=>
     intro v w1 hx;(repeat intro (zq:v _=_));intro bb hbb;subst hbb;have n0:=(hdr.trans hx).cell HE1.out;intro K hK;go_simp;exact hK _ _ (Ext.refl _) rfl
    case g18=>
     intro v w1 hx;(repeat intro (zq:v _=_));intro bb hbb;subst hbb;refine ⟨.bool qe,fun w=>?_,rfl⟩;go_simp;exact HQE.out
    case g19=>
     intro v w1 hx;(repeat intro (zq:v _=_));intro bb hbb;subst hbb;refine ⟨.bool q,fun w=>?_,rfl⟩;go_simp
     (first | exact HQQ.out | (rw [<- HQQ.out]; rfl) | (rw [<- HQQ.out]; cases cb <;> cases qe <;> rfl))
    case g20=>
     intro v w1 hx _ (q3:v 3=_) (q4:v 4=_) (q5:v 5=_) (q6:v 6=_) (q7:v 7=_) (q8:v 8=_) (q9:(fun v w'=>Q0q w' 0 3 (.int .i64) (v 9) cs) v w1) (q10:v 10=_) (q11:v 11=_) (q12:v 12=_) (q13:v 13=_) (q14:v 14=_) (q15:v 15=_) (q16:v 16=_) (q17:v 17=_) (q18:v 18=_) (q19:v 19=_);intro bb hbb;obtain ⟨s9,c9,e9,_⟩:=Q0q.shape q9;have o1:bb.eval (.tmp 23)=v 9:=by rw [hbb]; dsimp only; (try simp (discharger:=decide) only [eval_put_ne]); rw [Q0a (by simp only [size_put]; exact (by decide:23 < 39))]
     have o2:bb.eval (.tmp 33)=.bool q:=by rw [hbb]; dsimp only; (try simp (discharger:=decide) only [eval_put_ne]); rw [Q0a (by simp only [size_put]; exact (by decide:33 < 39))]; exact q19
     rw [e9] at o1;exact ⟨_,fun w=>X8g _ (.tmp 23) (.tmp 33) rfl o1 o2 (fun w=>J5m w _ _ _ _),by show Value.agg #[.slice s9 cs.length c9,.bool q]=Value.agg #[v 9,.bool q]; rw [e9]⟩
    case g21=>
     intro v w1 hx _ (q3:v 3=_) (q4:v 4=_) (q5:v 5=_) (q6:v 6=_) (q7:v 7=_) (q8:v 8=_) (q9:(fun v w'=>Q0q w' 0 3 (.int .i64) (v 9) cs) v w1) (q10:v 10=_) (q11:v 11=_) (q12:v 12=_) (q13:v 13=_) (q14:v 14=_) (q15:v 15=_) (q16:v 16=_) (q17:v 17=_) (q18:v 18=_) (q19:v 19=_) (q20:(fun v w'=>v 20=.agg #[v 9,.bool q]) v w1);intro bb hbb;intro K hK;obtain ⟨s9,c9,e9,_⟩:=Q0q.shape q9;have o1:bb.eval (.tmp 34)=.agg #[v 9,.bool q]:=by rw [hbb]; dsimp only; (try simp (discharger:=decide) only [eval_put_ne]); rw [Q0a (by simp only [size_put]; exact (by decide:34 < 39))]; exact q20
     rw [e9] at o1;have hbl:Blk (w1.alloc (.cells (Value.agg #[.slice s9 cs.length c9,.bool q]).cells 115)) w1.heap.size 115 (X8h (v 9,⟨cs,q⟩)).toArray:=by rw [e9]; exact Blk.made _ _ _
     exact Q3i 45 115 (.tmp 34) rfl o1 (J6l w1 _ _ _ _) (hK _ _ (Ext.box _ _) ⟨_,rfl,hbl⟩)
    case g22=>
     intro v w1 hx (q0:v 0=_) (q1:v 1=_) _ (q3:v 3=_) (q4:v 4=_) (q5:v 5=_) (q6:v 6=_) (q7:v 7=_) (q8:v 8=_) (q9:(fun v w'=>Q0q w' 0 3 (.int .i64) (v 9) cs) v w1) (q10:v 10=_) (q11:v 11=_) (q12:v 12=_) (q13:v 13=_) (q14:v 14=_) (q15:v 15=_) (q16:v 16=_) (q17:v 17=_) (q18:v 18=_) (q19:v 19=_) _ (q21:(fun v w'=>∃ g,v 21=.slice (some ⟨g,0,none⟩) 1 1 /\ Blk w' g 115 (X8h (v 9,⟨cs,q⟩)).toArray) v w1);intro wl hT;obtain rfl:wl=w1:=hT;intro bb hbb;intro K hK;obtain ⟨g,hg10,hb10⟩:=q21;have o1:bb.eval (.tmp 15)=vo:=by rw [hbb]; dsimp only; (try simp (discharger:=decide) only [eval_put_ne]); rw [Q0a (by simp only [size_put]; exact (by decide:15 < 39))]; exact q1
     have o2:bb.eval (.tmp 35)=.slice (some ⟨g,0,none⟩) 1 1:=by rw [hbb]; dsimp only; (try simp (discharger:=decide) only [eval_put_ne]); rw [Q0a (by simp only [size_put]; exact (by decide:35 < 39))]; exact hg10
     have hxx:=hdr.trans hx;exact Q2i _ _ 45 rfl (gp + 1) 115 i0 (.agg #[.slice none 0 0,.bool false]) 2 32 Tryz.underlying45 hi hz0 hz1 hz2 rfl (by decide) X8h Y8f vo _ (v 9,⟨cs,q⟩) o1 (HOW.out.below hxx) ⟨g,0,none⟩ 1 o2 (Q5g hb10) (Z4q (q:=(v 9,⟨cs,q⟩)) q9) (by omega) (by decide) (by have:=hxx.size; omega) (fun v' w' h1 h2=>hK _ _ ⟨h1,h2⟩)
    case g23=>
     intro v w1 hx (q0:v 0=_) (q1:v 1=_) _ (q3:v 3=_) (q4:v 4=_) (q5:v 5=_) (q6:v 6=_) (q7:v 7=_) (q8:v 8=_) _ (q10:v 10=_) (q11:v 11=_) (q12:v 12=_) (q13:v 13=_) (q14:v 14=_) (q15:v 15=_) (q16:v 16=_) (q17:v 17=_) (q18:v 18=_) (q19:v 19=_) _ _;intro wl hT;replace hT:(fun v w1 w'=>Q0z w' (gp + 1) 115 2 X8h (v 22) (qs ++ [(v 9,⟨cs,q⟩)]) /\ w1.grownBy w' vo.ownBlock) v w1 wl:=hT;intro bb hbb;subst hbb;intro K hK;go_simp;exact hK _ _ ⟨rfl,hT⟩
    case g24=>
     intro v w1 hx (q0:v 0=_) (q1:v 1=_) _ (q3:v 3=_) (q4:v 4=_) (q5:v 5=_) (q6:v 6=_) (q7:v 7=_) (q8:v 8=_) _ (q10:v 10=_) (q11:v 11=_) (q12:v 12=_) (q13:v 13=_) (q14:v 14=_) (q15:v 15=_) (q16:v 16=_) (q17:v 17=_) (q18:v 18=_) (q19:v 19=_) _ _;intro wl hT;replace hT:(fun v w1 w'=>v 23=.pointer (some ⟨gp,0,none⟩) /\ Q0z w' (gp + 1) 115 2 X8h (v 22) (qs ++ [(v 9,⟨cs,q⟩)]) /\ w1.grownBy w' vo.ownBlock) v w1 wl:=hT;intro bb hbb;intro K hK;obtain ⟨hT0,hT1,hT2⟩:=hT;have hxx:=hdr.trans hx;obtain ⟨bp,cp,hsh,_⟩:=hT1.shape;have o1:bb.eval (.tmp 37)=.pointer (some ⟨gp,0,none⟩):=by rw [hbb]; dsimp only; (try simp (discharger:=decide) only [eval_put_ne]); rw [Q0a (by simp only [size_put]; exact (by decide:37 < 39))]; exact hT0
     have o2:bb.eval (.tmp 36)=v 22:=by rw [hbb]; dsimp only; (try simp (discharger:=decide) only [eval_put_ne]); rw [Q0a (by simp only [size_put]; exact (by decide:36 < 39))]
     have hbl:=Go.Tw.Q5l (HBO.out.ext hxx) (HOW.out.below hxx) (by omega) hT2
     exact Q3y _ _ rfl Tryz.J7k (g:=gp) (k:=0) o1 o2 (by rw [hsh]; rfl) (by rw [hsh]; rfl) hbl (by show 0 < 1; omega) (fun v'=>hK _ _ ⟨v 22,wl,hT1,hT2,rfl⟩)
    case post =>
     intro v w1 hx;(iterate 2 intro (zq:v _=_));intro (q2:X0u w1 (v 2) wq.heap.size 3);(iterate 6 intro (zq:v _=_));intro (q9:(fun v w'=>Q0q w' 0 3 (.int .i64) (v 9) cs) v w1);(iterate 10 intro (zq:v _=_));intro (q20:(fun v w'=>v 20=.agg #[v 9,.bool q]) v w1) (q21:(fun v w'=>∃ g,v 21=.slice (some ⟨g,0,none⟩) 1 1 /\ Blk w' g 115 (X8h (v 9,⟨cs,q⟩)).toArray) v w1);intro w2 hE;replace hE:(fun v w1 w'=>∃ x wm,Q0z wm (gp + 1) 115 2 X8h x (qs ++ [(v 9,⟨cs,q⟩)]) /\ w1.grownBy wm vo.ownBlock /\ w'=wm.setCell ⟨gp,0,none⟩ x) v w1 w2:=hE;simp only [Flow.acts,Act.put];go_simp;obtain ⟨x,wm,hom,hgm,rfl⟩:=hE;have hxx:=hdr.trans hx;have howx:=HOW.out.below hxx;have hbm:=Go.Tw.Q5l (HBO.out.ext hxx) howx (by omega) hgm
     have HO6:=hid (hom.X0g (p:=⟨gp,0,none⟩) (Nat.lt_succ_self gp) x);have HB6:=hid (hbm.set 0 x);have hxm:Below gp W wm:=Below.trans HLO.out (Below.grown (hxx.mono (by omega)) hgm (by have:=hxx.size; omega) (fun j hj=>by have:=(howx.lt j hj).1; omega))
     have HX6:=hid (hxm.setCell (p:=⟨gp,0,none⟩) (Nat.le_refl _) x);have HR6:=hid ((((HRU.out.ext hxx).snoc (q:=(v 9,⟨cs,q⟩)) q9).grown howx (by decide) hgm).set (k:=0) (u:=x) hbm (by decide))
     have HS6:Hid (gp + 1 <= (wm.setCell ⟨gp,0,none⟩ x).heap.size):=hid (by have:=hbm.lt; simp; omega)
     obtain ⟨w6,hw6⟩:∃ y,wm.setCell ⟨gp,0,none⟩ x=y:=⟨_,rfl⟩;rw [hw6] at HO6 HB6 HX6 HR6 HS6 ⊢;clear hw6 hom hgm hxx hx hbm hxm howx hdr q2 q9 q20 q21;(repeat clear zq);go_wp2;go_roundw
     case rel=>exact ⟨k + 1,x,qs ++ [(v 9,⟨cs,q⟩)],by omega,by go_num,HB6.out,HO6.out,by rw [List.map_append,HQS.out,HTK1.out]; rfl,HR6.out,HX6.out,HS6.out⟩
     case measure=>simp [intOf]; omega
  . have hkI:¬ (k:Int) < n:=by omega
    have hkn:k=n:=by omega
    subst hkn;have hp:(J2n p m).take k=J2n p m:=by rw [List.take_of_length_le (by rw [HP.out]; omega)]
    rw [hp] at hqs;obtain ⟨Av,cv',rfl,-⟩:=hown.shape;rw [hqk] at hown hbo HBO HOW;have HQK:=hid hqk;have d0:wr.cell? ⟨gp,0,none⟩=some (.slice Av k cv'):=hbo.cell 0;have hk1:=K1.out.below hlow (by have:=HGP.out; omega)
    have c1:wr.cell? ⟨gs + 1,0,none⟩=some (.slice none 0 0):=hk1.cell 0;have f1:=hk1.frozen 0;have HK1:=hid hk1;have HXR:=hid hxr;have HQA:=hid hqs;have HG1:Hid (gs + 1 < gp + 1):=hid (by have:=HGP.out; omega)
    clear hbo hown hqs hru hxr hk1 hlow hp;go_wp2;refine bodyPost_ret (Q1v Tryz.results59 rfl (HK1.out.set 0 _) Tryz.Z9i Tryz.Z7k) rfl ?_;refine ⟨_,rfl,⟨_,qs,rfl,?_,HQA.out,HRU.out.set HK1.out (by decide)⟩,HXR.out.Y0h (p:=⟨gs + 1,0,none⟩) (by show w.heap.size <= gs + 1; have:=HGS.out; omega) _⟩
    have h:=J5v (HOW.out.X0g (p:=⟨gs + 1,0,none⟩) HG1.out (.slice Av k cv')) (show w.heap.size <= gp + 1 by have:=HGS.out; have:=HGP.out; omega)
    have he:=HQK.out;subst he;exact h
end Go.Proofs
namespace Go.Proofs
open Go.RowKit Go.Tw Go.Flow
theorem J4y {a b:Int} (h:a ≠ 0):Q0g [a,b]=a:=by unfold Q0g; rw [if_neg h]
theorem J2p {a b:Int} (h:a=0):Q0g [a,b]=b:=by
 subst h;unfold Q0g;rw [if_pos rfl];unfold Q0g
 by_cases hb:b=0
 . rw [if_pos hb,hb]; rfl
 . rw [if_neg hb]
theorem J6w {s:Q0b} {p:List Rul} {n:Int} (h:Q1g s p ≠ 0):J3c s p n=Q1g s p /\ J2l s p n=[]:=by
 have h1:J3c s p n=Q1g s p:=J4y h;exact ⟨h1,if_neg (by rw [h1]; exact h)⟩
theorem J5y {s:Q0b} {p:List Rul} {n:Int} (h:Q1g s p=0) (hb:J2r p n=true):J3c s p n=10 /\ J2l s p n=[]:=by
 have h1:J3c s p n=10:=by unfold J3c; rw [J2p h,hb]; rfl
 exact ⟨h1,if_neg (by rw [h1]; decide)⟩
theorem J7i {s:Q0b} {p:List Rul} {n:Int} (h:Q1g s p=0) (hb:J2r p n=false):J3c s p n=0 /\ J2l s p n=J2n p n.toNat:=by
 have h1:J3c s p n=0:=by unfold J3c; rw [J2p h,hb]; rfl
 exact ⟨h1,if_pos h1⟩
theorem J7b {s:Q0b} {p:List Rul} {n:Int} (h:Q1g s p ≠ 0):X1r s p n=Q1g s p /\ Z5x s p n=[] /\ Z4j s p n=[]:=by
 have h1:X1r s p n=Q1g s p:=J4y h;exact ⟨h1,if_neg (by rw [h1]; exact h),if_neg (by rw [h1]; exact h)⟩
theorem J5e {s:Q0b} {p:List Rul} {n:Int} (h:Q1g s p=0) (hb:X1k s n=true):X1r s p n=10 /\ Z5x s p n=[] /\ Z4j s p n=[]:=by
 have h1:X1r s p n=10:=by unfold X1r; rw [J2p h,hb]; rfl
 exact ⟨h1,if_neg (by rw [h1]; decide),if_neg (by rw [h1]; decide)⟩
theorem J6o {s:Q0b} {p:List Rul} {n:Int} (h:Q1g s p=0) (hb:X1k s n=false):X1r s p n=0 /\ Z5x s p n=Q0m p (Q0c s.members n.toNat) /\ Z4j s p n=(Q2e s n.toNat).X3n (Q0m p (Q0c s.members n.toNat)):=by
 have h1:X1r s p n=0:=by unfold X1r; rw [J2p h,hb]; rfl
 exact ⟨h1,if_pos h1,if_pos h1⟩
theorem J6d {s:Q0b} {p:List Rul} {n:Int}:(J2l s p n).length <= 4096:=by
 unfold J2l
 split
 . rename_i h
   obtain ⟨h1,h2,-⟩:=J4x h;have:=J5x h1 h2;rw [J2x]; omega
 . exact Nat.zero_le _
theorem J3m {a b:World} {g n c m d:Nat} {T:TypeId} {A B:Option Addr} {v:Value} {l:List Rul} (h:Q3m a v l) (hg:Blk a g T #[.slice A n c,.slice B m d]) (hk:∀ k,k < a.heap.size -> k ≠ g -> b.heap[k]?=a.heap[k]?):Q3m b v l:=by
 obtain ⟨f,⟨A',cap,hv,hn,hcap,hc⟩,h2⟩:=h;refine ⟨f,⟨A',cap,hv,hn,hcap,fun j hj=>?_⟩,fun j hj=>?_⟩
 . obtain ⟨b',off,hA,hcell⟩:=hc j hj
   obtain ⟨b2,off2,hA2,hcell2⟩:=hc (j / 2 * 2 + 1) (by omega)
   rw [hA] at hA2;injection hA2 with hA2;injection hA2 with e1 e2 _;subst e1;have e:=(h2 (j / 2) (by omega)).2
   simp only at e;exact ⟨b',off,hA,X1g hcell (Y2b hg hcell2 (by rw [e]; intro _ _ _ hh; cases hh)) hk⟩
 . obtain ⟨x,y⟩:=h2 j hj
   exact ⟨Y9q x hg hk,y⟩
theorem J5b {a b:World} {g j:Nat} {S:TypeId} {ds:Array Value} (hb:Blk a j S ds) (hne:j ≠ g) (ho:∀ k,k ≠ g -> b.heap[k]?=a.heap[k]?):Blk b j S ds:=by
 unfold Blk at *; rw [ho j hne]; exact hb
theorem J2d.rules {s:Q0b} {p:List Rul} {n:Nat} {w w':World} {x:Value} (hS:Q1b s) (hp:Q2d s.hist p=0) (h:J2d 115 w w' x (J2n p n)):Q0w w' x (J2n p n):=by
 have hf:=Q4h.1 (J4z (n:=n) hp);refine h.is (by have:=J5x hS hp; rw [J2x]; omega) fun r hr=>?_
 have hm:r.classes ∈ s.hist:=by rw [<- hf]; exact List.mem_map_of_mem hr
 have:=Z2v hS _ hm;omega
end Go.Proofs
namespace Go.Proofs
open Go.RowKit Go.Tw Go.Flow
attribute [local go_sem] Oper.semAt_some
theorem J7h {h:List (List Int)} {p:List Rul} (hl:p.length=h.length) (he:∀ j,j < h.length -> Q0n p j=h.getD j []):Q2d h p=0:=by
 rw [Q4h]
 apply List.ext_getElem
 . simpa using hl
 . intro i h1 h2
   have:=he i h2;unfold Q0n at this;rw [Q0v _ h2,Q0v _ (by omega)] at this
   simpa using this
theorem J7j {h:List (List Int)} {p:List Rul} {j:Nat} (hl:p.length=h.length) (hj:j < h.length) (hne:Q0n p j ≠ h.getD j []):Q2d h p=11:=by
 unfold Q2d;rw [if_neg (by simpa using hl),if_pos]
 intro he
 apply hne
 unfold Q0n;rw [Q0v _ hj,Q0v _ (show j < p.length by omega)]
 have:=congrArg (fun l=>l[j]?) he
 simpa [List.getElem?_eq_getElem hj,List.getElem?_eq_getElem (show j < p.length by omega)] using this
theorem J6v {h:List (List Int)} {p:List Rul} (hl:p.length ≠ h.length):Q2d h p=2:=by unfold Q2d; rw [if_pos hl]
theorem J3y (w:World) (v u:Value) (s:Q0b) (p:List Rul) (hv:Q0h w v s) (hu:Q0w w u p) (he:s.err=0) :
    Calls Tryz.prog 28 #[v,u] w fun e w'=>e=.returned (.int .i64 (Q2d s.hist p)) /\ Ext w w':=by
 have hS:=Q1b.of he;have hhl:=Z5n hS;have hhp:=J6x hS;have HVS:=hid hS;have HV:=hid hv;have HERR:=hid he;obtain ⟨a,b,rfl,-⟩:=hv;have ha:∃ A n c,a=.slice A n c:=by obtain ⟨_,_,e,h2⟩:=HV.out; cases e; obtain ⟨A,c,e,-⟩:=h2.ships.opened; exact ⟨A,_,c,e⟩
 have hb:∃ A n c,b=.slice A n c:=by obtain ⟨_,_,e,h2⟩:=HV.out; cases e; obtain ⟨A,c,e,-⟩:=h2.members.opened; exact ⟨A,_,c,e⟩
 obtain ⟨A1,n1,ca1,rfl⟩:=ha;obtain ⟨A2,n2,ca2,rfl⟩:=hb;obtain ⟨R,rfl,hr⟩:=hu;obtain ⟨AR,cr,rfl,-,-,hcr⟩:=hr.opened;have HCR:=hid hcr;obtain ⟨n,hn⟩:∃ n,p.length=n:=⟨_,rfl⟩;have HN:=hid hn;rw [hn] at HCR ⊢;clear hS he hr hcr hn;go_enter Tryz.func28,Tryz.ntmps28;go_wp2_with fail;obtain ⟨W,hWW,k0,k1,HXW,eW⟩:=Q4e w 25 #[.int .i64 s.limit,.slice A1 n1 ca1,.slice A2 n2 ca2] 47 #[.slice AR n cr];rw [hWW];clear hWW;have HV1:=hid (HV.out.ext HXW.out);obtain ⟨gs,hgs⟩:∃ x,w.heap.size=x:=⟨_,rfl⟩;rw [hgs] at k0 k1 eW ⊢;have K1:=hid k1;have c0:=k0.cell 0;have c1:=k0.cell 1;have c2:=k0.cell 2;simp only [Go.Tw.gA,Go.Tw.gB,Go.Tw.gC] at c0 c1 c2;clear k0 k1 hgs;go_wp2_with (go_at_call 44; refine (J4r _ _ s HV1.out HERR.out).mono ?_; rintro e wh ⟨xh,rfl,hll,hxh⟩; refine halted ?_);have hih:=J6j HVS.out hll;obtain ⟨AH,ch,rfl,-,-,hch⟩:=hih.opened;obtain ⟨H,hH⟩:∃ x,s.hist.length=x:=⟨_,rfl⟩;have HH:=hid hH;have HCH:=hid hch;rw [hH] at hhl HCH ⊢;have HXA:=hid (HXW.out.trans hxh);have HK1:=hid (K1.out.ext hxh);have d0:wh.cell? ⟨gs + 1,0,none⟩=some (.slice AR n cr):=HK1.out.cell 0;clear hll hih hch hH hhp hxh c0 c1 c2;unfold Q1i
 by_cases hnH:n=H
 . have hI:((n:Int) != (H:Int))=false:=by simp [hnH]
   subst hnH;go_wp2_with fail;clear d0
   go_loopw [6] (fun i wr=>∃ k:Nat,k <= n /\ i=.int .i64 k /\ (∀ j,j < k -> Q0n p j=s.hist.getD j []) /\ Ext wh wr) (fun i _=>n - (intOf i).toNat)
   case atStart=>exact ⟨0,Nat.zero_le _,rfl,fun j h=>absurd h (Nat.not_lt_zero _),Ext.refl _⟩
   case round =>
    obtain ⟨k,hk,rfl,heq,hx0⟩:=hrel;have HEQ:=hid heq;have HX0:=hid hx0;have hxr:Ext w wr:=HXA.out.trans hx0;have HKR:=hid (HK1.out.ext hx0)
    by_cases hlt:k < n
    . have hkI:(k:Int) < n:=by omega
      obtain ⟨b1,o1,x,rfl,-,e0,-,hi1⟩:=HCR.out k hlt;obtain ⟨b2,o2,y,rfl,-,f0,hi2⟩:=HCH.out k hlt;replace e0:=hxr.cell e0;replace f0:=hx0.cell f0;have HSI:=hid (fun (w1:World) (hx:Ext wr w1)=>Q8i w1 _ _ _ _ ((hi1.ext hxr).ext hx) ((hi2.ext hx0).ext hx));obtain ⟨X,capx,rfl,-,-,-⟩:=hi1.opened;obtain ⟨Y,capy,rfl,-,-,-⟩:=hi2.opened;obtain ⟨cp,hcp⟩:∃ c,Q0n p k=c:=⟨_,rfl⟩;obtain ⟨cq,hcq⟩:∃ c,s.hist.getD k []=c:=⟨_,rfl⟩;rw [hcp,hcq] at HSI;rw [hcp] at e0;rw [hcq] at f0;have HCP:=hid hcp;have HCQ:=hid hcq;have HE0:=hid e0;have HF0:=hid f0;obtain ⟨q,hq⟩:∃ d,decide (cp=cq)=d:=⟨_,rfl⟩;have HQ:=hid hq;rw [hq] at HSI;have hdr:=(Ext.refl wr).drew;clear heq hx0 hxr hi1 hi2 hcp hcq e0 f0 hq;obtain ⟨wq,rfl⟩:∃ Z,Z=wr:=⟨_,rfl⟩;go_wp2_with fail;refine Flow.Q1o [.p,.w,.p,.p,.p,.w,.p,.p,.p,.w,.w,.p] [0,1,2,3,4,5,6,7,8,9,10,11] [[],[0],[],[1,2],[3],[4],[],[],[6,7],[8],[5,9],[10]]
       [.c 0 (.pointer (some ⟨gs + 1,0,none⟩)),.c 1 (.slice (some ⟨b1,o1,none⟩) n cr),.c 2 (.int .i64 (k:Int)),.c 3 (.pointer (some ⟨b1,o1 + k * 2,none⟩)),.c 4 (.pointer (some ⟨b1,o1 + k * 2,none⟩)),.c 5 (.slice X cp.length capx),.c 6 (.slice (some ⟨b2,o2,none⟩) n ch),.c 7 (.int .i64 (k:Int)),.c 8 (.pointer (some ⟨b2,o2 + k,none⟩)),.c 9 (.slice Y cq.length capy),.c 10 (.bool q),.c 11 (.bool (!q))]
       (by kernel_rfl) rfl (by kernel_rfl) ⟨?g0,?g1,?g2,?g3,?g4,?g5,?g6,?g7,?g8,?g9,?g10,?g11,trivial⟩ ?post
      case g0 | g2 | g6 | g7=>
       intro v w1 hx;intro bb hbb;subst hbb;refine ⟨_,fun w=>?_,rfl⟩;go_simp
      case g1=>
       intro v w1 hx;(repeat intro (zq:v _=_));intro bb hbb;subst hbb;have n0:w1.cell? ⟨gs + 1,0,none⟩=some (.slice (some ⟨b1,o1,none⟩) n cr):=(HKR.out.ext (hdr.trans hx)).cell 0;intro K hK;go_simp;exact hK _ _ (Ext.refl _) rfl
      case g3 | g4 | g8 | g11=>
       intro v w1 hx;(repeat intro (zq:v _=_));intro bb hbb;subst hbb;refine ⟨_,fun w=>?_,rfl⟩;go_simp
      case g5=>
       intro v w1 hx;(repeat intro (zq:v _=_));intro bb hbb;subst hbb;have n0:=(hdr.trans hx).cell HE0.out;intro K hK;go_simp;exact hK _ _ (Ext.refl _) rfl
      case g9=>
       intro v w1 hx;(repeat intro (zq:v _=_));intro bb hbb;subst hbb;have n0:=(hdr.trans hx).cell HF0.out;intro K hK;go_simp;exact hK _ _ (Ext.refl _) rfl
      case g10=>
       intro v w1 hx;(repeat intro (zq:v _=_));intro bb hbb;subst hbb;intro K hK;go_simp;refine Q0e (HSI.out w1 (hdr.trans hx)) ?_;rintro e w2 ⟨rfl,hx2⟩;exact ⟨_,rfl,hK _ _ hx2 rfl⟩
      case post =>
       intro v w1 hx;(iterate 12 intro (zq:v _=_));simp only [Flow.All,Flow.acts,Act.put];go_simp;have HX6:=hid (HX0.out.trans (hdr.trans hx));clear hx hdr;(repeat clear zq);cases q with
       | false =>
         have hne:Q2d s.hist p=11:=J7j (by rw [HN.out,HH.out]) (by rw [HH.out]; exact hlt) (by rw [HCP.out,HCQ.out]; exact of_decide_eq_false HQ.out)
         have HR:=hid hne;clear hne;go_wp2;go_ret;exact ⟨by rw [HR.out] <;> rfl,HXA.out.trans HX6.out⟩
       | true =>
         have hke:Q0n p k=s.hist.getD k []:=by rw [HCP.out,HCQ.out]; exact of_decide_eq_true HQ.out
         have HKE:=hid hke;clear hke;go_wp2;go_roundw
         case rel=>exact ⟨k + 1,by omega,by go_num,(fun j hj=>by
          rcases Nat.lt_or_ge j k with h | h
          . exact HEQ.out j h
          . have e:j=k:=by omega
            subst e; exact HKE.out),HX6.out⟩
         case measure=>simp [intOf]; omega
    . have hkI:¬ (k:Int) < n:=by omega
      have hkn:k=n:=by omega
      have hr0:Q2d s.hist p=0:=J7h (by rw [HN.out,HH.out]) (by rw [HH.out,<- hkn]; exact heq)
      have HR:=hid hr0;clear heq hr0;go_wp2;go_ret;exact ⟨by rw [HR.out] <;> rfl,hxr⟩
 . have hI:((n:Int) != (H:Int))=true:=by simp; omega
   have HR:Hid (Q2d s.hist p=2):=hid (J6v (by rw [HN.out,HH.out]; exact hnH))
   clear hnH;go_wp2;go_ret;exact ⟨by rw [HR.out] <;> rfl,HXA.out⟩
theorem J3f (w:World) (v u:Value) (s:Q0b) (p:List Rul) (hv:Q0h w v s) (hu:Q0w w u p) :
    Calls Tryz.prog 58 #[v,u] w fun e w'=>e=.returned (.int .i64 (Q1g s p)) /\ Ext w w':=by
 have HV:=hid hv;have HU:=hid hu;obtain ⟨a,b,rfl,-⟩:=hv;have ha:∃ A n c,a=.slice A n c:=by obtain ⟨_,_,e,h2⟩:=HV.out; cases e; obtain ⟨A,c,e,-⟩:=h2.ships.opened; exact ⟨A,_,c,e⟩
 have hb:∃ A n c,b=.slice A n c:=by obtain ⟨_,_,e,h2⟩:=HV.out; cases e; obtain ⟨A,c,e,-⟩:=h2.members.opened; exact ⟨A,_,c,e⟩
 obtain ⟨A1,n1,ca1,rfl⟩:=ha;obtain ⟨A2,n2,ca2,rfl⟩:=hb;obtain ⟨R,rfl,hr⟩:=hu;obtain ⟨AR,cr,rfl,-,-,-⟩:=hr.opened;obtain ⟨n,hn⟩:∃ n,p.length=n:=⟨_,rfl⟩;rw [hn] at HU ⊢;clear hr hn;go_enter Tryz.func58,Tryz.ntmps58;go_wp2_with fail;obtain ⟨W,hWW,k0,k1,HXW,eW⟩:=Q4e w 25 #[.int .i64 s.limit,.slice A1 n1 ca1,.slice A2 n2 ca2] 47 #[.slice AR n cr];rw [hWW];clear hWW;have HV1:=hid (HV.out.ext HXW.out);have HU1:=hid (HU.out.ext HXW.out);obtain ⟨gs,hgs⟩:∃ x,w.heap.size=x:=⟨_,rfl⟩;rw [hgs] at k0 k1 eW ⊢;have K0:=hid k0;have K1:=hid k1;have c0:=k0.cell 0;have c1:=k0.cell 1;have c2:=k0.cell 2;simp only [Go.Tw.gA,Go.Tw.gB,Go.Tw.gC] at c0 c1 c2;clear k0 k1 hgs;go_wp2_with (go_at_call 16; refine (Z0w _ _ s HV1.out).mono ?_; rintro e w2 ⟨rfl,hx2⟩; refine halted ?_);clear c0 c1 c2;have c0:=(K0.out.ext hx2).cell 0;have c1:=(K0.out.ext hx2).cell 1;have c2:=(K0.out.ext hx2).cell 2;have c3:=(K1.out.ext hx2).cell 0;simp only [Go.Tw.gA,Go.Tw.gB,Go.Tw.gC] at c0 c1 c2 c3;have HX2:=hid hx2;have HXA:=hid (HXW.out.trans hx2);clear hx2;unfold Q1i
 by_cases he:s.err=0
 . have HE:=hid he
   have HP:Hid (Q1g s p=Q2d s.hist p):=hid (by unfold Q1g; rw [if_neg (by simpa using he)])
   have hI:(s.err != 0)=false:=by simp [he]
   rw [he] at hI ⊢;go_wp2_with (go_at_call 28; refine (J3y _ _ _ s p (HV1.out.ext HX2.out) (HU1.out.ext HX2.out) HE.out).mono ?_; rintro e w3 ⟨rfl,hx3⟩);go_ret;exact ⟨by rw [HP.out] <;> rfl,HXA.out.trans hx3⟩
 . have HP:Hid (Q1g s p=s.err):=hid (by unfold Q1g; rw [if_pos he])
   obtain ⟨E,hE⟩:∃ E,s.err=E:=⟨_,rfl⟩;rw [hE] at he HP ⊢;have hI:(E != 0)=true:=by simp [he]
   go_wp2;go_ret;exact ⟨by rw [HP.out] <;> rfl,HXA.out⟩
end Go.Proofs
namespace Go.Proofs
open Go.RowKit Go.Tw Go.Flow
attribute [local go_sem] Oper.semAt_some
def J7g (w:World) (x:Value) (o:Option (List Bool)):Prop:=match o with
 | none=>x=.slice none 0 0
 | some b=>Q1q w x b
theorem J7g.ext {w w':World} {x:Value} {o:Option (List Bool)} (h:J7g w x o) (hx:Ext w w'):J7g w' x o:=by
 cases o with
 | none=>exact h
 | some b=>exact Q1q.ext h hx
end Go.Proofs
namespace Go.Proofs
open Go.RowKit Go.Tw Go.Flow
attribute [local go_sem] Oper.semAt_some
theorem J2q {w:World} {o:Oper} {a:Act} (x:Operand) (k:Nat) (hop:o.op=.extract x k) {u r:Value} (h:a.eval x=u) (hr:∀ w,(Instr.extract u k).run Tryz.prog w=.ok r w):(execOp a.eval o).run Tryz.prog w=.ok (.value r) w:=by
 unfold execOp;simp only [hop,h,Sem.run_bind,hr,Result.andThen_ok,Sem.run_pure]
theorem J5j {w:World} {o:Oper} {a:Act} (x:Operand) (hop:o.op=.move x) {u:Value} (h:a.eval x=u):(execOp a.eval o).run Tryz.prog w=.ok (.value u) w:=by
 unfold execOp;simp only [hop,h,Sem.run_pure]
theorem J7o (w:World) (x y:Value):(Instr.extract (.tuple #[x,y]) 0).run Tryz.prog w=.ok x w:=rfl
theorem J7n (w:World) (x y:Value):(Instr.extract (.tuple #[x,y]) 1).run Tryz.prog w=.ok y w:=rfl
end Go.Proofs
