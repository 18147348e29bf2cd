/- Contract of the reference: Coded. Contracts of the reference: Coded, Always. Contracts of the reference: Few, Most. Most and Best of the program at a J6z that is refused; small facts for the law PolicySearches. What the law PolicyBest asks, as plain facts. -/
import Derived.Test.YthnobngcipaljaaGreatDoorPp35
import Derived.Test.YthnobngcipaljaaGreatDoorPz04
import Derived.Test.YthnobngcipaljaaGreatDoorPz01
import Derived.Lib.MinMax
set_option maxRecDepth 1000000
set_option maxHeartbeats 64000000
set_option linter.unusedVariables false
set_option linter.unusedSimpArgs false
set_option linter.constructorNameAsVariable false
open Go.Lib (hid)
namespace Go.Proofs
open Go.RowKit Go.Tw Go.Flow
attribute [local go_sem] Oper.semAt_some
def cdN (n k:Nat):Nat:=n / 2 ^ k
def cdB (n k:Nat):Bool:=n.testBit k
theorem J8e (n:Nat):cdN n 0=n:=by unfold cdN; simp
theorem J7n (s:Q0b) (n:Nat) {k:Nat} (hk:k < s.hist.length):(J2l s n).take (k + 1)=(J2l s n).take k ++ [⟨s.hist.getD k [],cdB n k⟩]:=by
 have hl:k < (J2l s n).length:=by unfold J2l; simpa using hk
 rw [List.take_succ_eq_append_getElem hl]
 congr 2
 unfold J2l;simp [cdB]
theorem J3w (s:Q0b) (n:Nat):(J2l s n).length=s.hist.length:=by unfold J2l; simp
theorem J6p (w:World) (v:Value) (s:Q0b) (n:Nat) (hv:Q0h w v s) (he:s.err=0) (hn:n < 2 ^ 63) :
    Calls Tryz.prog 36 #[v,.int .i64 (n:Int)] w fun e w'=>∃ x,e=.returned x /\ J2d 115 w w' x (J2l s n) /\ Ext w w':=by
 obtain ⟨i0,hi,hz0,hz1,hz2⟩:=info_parts Tryz.Z9v;have hS:=Q1b.of he;have hhl:=Z5n hS;have hhp:=J8j hS;have HV:=hid hv;have HERR:=hid he;have h8:Hid (∀ h ∈ s.hist,h.length <= 6):=Z2v hS;obtain ⟨a,b,rfl,-⟩:=hv;have ha:∃ A n c,a=.slice A n c:=by obtain ⟨_,_,e,h2⟩:=HV.out; cases e; obtain ⟨A,c,e,-⟩:=h2.ships.opened; exact ⟨A,_,c,e⟩
 have hb:∃ A n c,b=.slice A n c:=by obtain ⟨_,_,e,h2⟩:=HV.out; cases e; obtain ⟨A,c,e,-⟩:=h2.members.opened; exact ⟨A,_,c,e⟩
 obtain ⟨A1,n1,ca1,rfl⟩:=ha;obtain ⟨A2,n2,ca2,rfl⟩:=hb;have HP:=hid (J3w s n);have HTK:Hid (∀ k,k < s.hist.length -> (J2l s n).take (k + 1)=(J2l s n).take k ++ [⟨s.hist.getD k [],cdB n k⟩]):=fun k hk=>J7n s n hk;clear hS he;go_enter Tryz.func36,Tryz.ntmps36;go_wp2_with fail;obtain ⟨W,hWW,k0,k1,HXW,eW⟩:=Q4e w 25 #[.int .i64 s.limit,.slice A1 n1 ca1,.slice A2 n2 ca2] 47 #[.slice none 0 0];rw [hWW];clear hWW;have HV1:=hid (HV.out.ext HXW.out);obtain ⟨gs,hgs⟩:∃ x,w.heap.size=x:=⟨_,rfl⟩;have HGS:=hid hgs;rw [hgs] at k0 k1 eW ⊢;have K1:=hid k1;have c0:=k0.cell 0;have c1:=k0.cell 1;have c2:=k0.cell 2;simp only [Go.Tw.gA,Go.Tw.gB,Go.Tw.gC] at c0 c1 c2;clear k0 k1 hgs;go_wp2_with (go_at_call 44; refine (J3a _ _ s HV1.out HERR.out).mono ?_; rintro e wh ⟨xh,rfl,hll,hxh⟩; refine halted ?_);obtain ⟨vs,hoh,hrl⟩:=hll;have hlu:=hrl.1
 rcases hoh.cells2 with ⟨rfl,hve⟩ | ⟨g0,cc,rfl,hcc,hbg,hgl,hcl⟩
 . exfalso
   rw [hve] at hlu;simp at hlu;omega
 obtain ⟨H,hH⟩:∃ x,s.hist.length=x:=⟨_,rfl⟩;rw [hH] at hlu hhl HTK HP;rw [hlu] at hcc;have HLU:=hid hlu;have HHH:=hid hH;have HCL:=hid hcl;have HRL:=hid hrl;have hxp:=Ext.box wh (.cells #[.slice none 0 0] 47);have hbp:=Blk.made wh 47 #[.slice none 0 0];have hes:(wh.alloc (.cells #[.slice none 0 0] 47)).heap.size=wh.heap.size + 1:=by simp
 rw [hlu];unfold Q1i;go_wp2_with fail;obtain ⟨gp,hgp⟩:∃ x,wh.heap.size=x:=⟨_,rfl⟩;obtain ⟨wp,hwp⟩:∃ X,wh.alloc (.cells #[.slice none 0 0] 47)=X:=⟨_,rfl⟩;rw [hwp,hgp] at hbp hes;rw [hwp] at hxp;rw [hwp,hgp];have HGP:=hid hgp;have HXH:=hid hxh;have HXP:=hid hxp;have hgW:gs + 1 < gp:=by have:=hxh.size; omega
 clear hwp hgp hoh hrl hcl hlu hH hhp hxh c0 c1 c2
 go_loopw [1,7] (fun c i wr=>∃ (k:Nat) (vo:Value) (qs:List (Value × Rul)),k <= H /\ i=.int .i64 k /\ c=.int .i64 (cdN n k:Nat) /\ Blk wr gp 47 #[vo] /\ Q0z wr (gp + 1) 115 2 X8h vo qs /\ qs.map (·.2)=(J2l s n).take k /\ RuR wr qs /\ Ext wh wr /\ gp + 1 <= wr.heap.size) (fun _ i _=>H - (intOf i).toNat)
 case atStart=>exact ⟨0,_,[],Nat.zero_le _,rfl,by rw [J8e],hbp,Q0z.nil _ _ _ _ _,rfl,(fun q hq=>by simp at hq),HXP.out,by omega⟩
 case round =>
  obtain ⟨k,vo,qs,hk,rfl,rfl,hbo,hown,hqs,hru,hxr,hsz⟩:=hrel;have hqk:qs.length=k:=by rw [<- List.length_map (f:=(·.2)),hqs,List.length_take,HP.out]; omega
  have HQS:=hid hqs;have HRU:=hid hru;have HBO:=hid hbo;have HOW:=hid hown;have HXR:=hid hxr
  by_cases hlt:k < H
  . have hkI:(k:Int) < H:=by omega
    have hek:=hxr.cell (HCL.out k (by rw [HLU.out]; exact hlt))
    rw [Nat.zero_add] at hek;have hok:=HRL.out.2 k (by rw [HHH.out]; exact hlt)
    rw [Q0v _ (show k < vs.length by rw [HLU.out]; exact hlt)] at hok
    obtain ⟨hv1,hhv⟩:∃ x,vs[k]'(by rw [HLU.out]; exact hlt)=x:=⟨_,rfl⟩
    have hek:wr.cell? ⟨g0,k,none⟩=some (vs[k]'(by rw [HLU.out]; exact hlt)):=hek
    rw [hhv] at hek hok;obtain ⟨X,capx,rfl,hcx⟩:=hok.shape;have htk:=HTK.out k hlt;have hl6:(s.hist.getD k []).length <= 6:=by rw [Q0v _ (by rw [HHH.out]; exact hlt)]; exact h8.out _ (List.getElem_mem _)
    obtain ⟨l,hl⟩:∃ x,s.hist.getD k []=x:=⟨_,rfl⟩;rw [hl] at hek hok htk hl6;have HEK:=hid hek;have HTK1:=hid htk;have HOK:=hid (hok.below hxr);have hcb:((cdN n k:Nat):Int).tmod 2=1 ↔ cdB n k=true:=by
     have:=J7c n k;unfold cdN cdB;rw [<- this]; simp
    have hcb2:(((cdN n k:Nat):Int).tmod 2 == 1)=cdB n k:=J7c n k;have hch:((cdN n k:Nat):Int).tdiv 2=((cdN n (k + 1):Nat):Int):=J7z n k;have hnk:cdN n k <= n:=Nat.div_le_self _ _;have hnk1:cdN n (k + 1) <= n:=Nat.div_le_self _ _;obtain ⟨c,hc⟩:∃ x,cdN n k=x:=⟨_,rfl⟩;obtain ⟨c2,hc2⟩:∃ x,cdN n (k + 1)=x:=⟨_,rfl⟩;obtain ⟨q,hq⟩:∃ x,cdB n k=x:=⟨_,rfl⟩;rw [hc] at hcb2 hch hnk ⊢;rw [hc2] at hch hnk1;rw [hq] at hcb2 HTK1;have hcb3:((c:Int) % 2 == 1)=q:=by rw [<- hcb2,Int.tmod_eq_emod_of_nonneg (by omega)]
    have HC2:=hid hc2;have HCB:=hid hcb2;have HCB3:=hid hcb3;have HWC:Hid (wrap64 (c2:Int)=c2):=hid (by unfold wrap64; omega)
    obtain ⟨wq,rfl⟩:∃ Z,Z=wr:=⟨_,rfl⟩;have hdr:=(Ext.refl wq).drew;clear hbo hown hqs hru hxr hek hok htk hl hhv hc hq hcb hc2 hcb2 hcb3;go_wp2_with fail;refine Flow.Q4m [.p,.w,.p,.p,.p,.w,.p,.p,.p,.p,.w,.last,.last,.last] [0,1,2,3,4,5,6,7,8,9,10,11,12,13] [[],[0],[],[],[2,3],[2,3,4],[],[6],[6,7],[2,3,4,5,6,7,8],[2,3,4,5,6,7,8,9],[0,1,2,3,4,5,6,7,8,9,10],[0,1,2,3,4,5,6,7,8,9,10,11],[0,1,2,3,4,5,6,7,8,9,10,11,12]] [11,12,13]
     [.c 0 (.pointer (some ⟨gp,0,none⟩)),.c 1 (vo),.c 2 (.slice (some ⟨g0,0,none⟩) H cc),.c 3 (.int .i64 (k:Int)),.c 4 (.pointer (some ⟨g0,k,none⟩)),.c 5 (.slice X l.length capx),.c 6 (.int .i64 (c:Int)),.c 7 (.int .i64 ((c:Int).tmod 2)),.c 8 (.bool q),⟨fun v wz=>(fun v w'=>v 9=.agg #[.slice X l.length capx,.bool q]) v wz,by intro _ _ _ _ h; exact h⟩,⟨fun v wz=>(fun v w'=>∃ g,v 10=.slice (some ⟨g,0,none⟩) 1 1 /\ Blk w' g 115 (X8h (.slice X l.length capx,⟨l,q⟩)).toArray) v wz,by rintro v a b hx ⟨g,h1,h2⟩; exact ⟨g,h1,h2.ext hx⟩⟩,.none,.none,.none]
     [fun v w1 w'=>Q0z w' (gp + 1) 115 2 X8h (v 11) (qs ++ [(.slice X l.length capx,⟨l,q⟩)]) /\ w1.grownBy w' vo.ownBlock,fun v w1 w'=>v 12=.pointer (some ⟨gp,0,none⟩) /\ Q0z w' (gp + 1) 115 2 X8h (v 11) (qs ++ [(.slice X l.length capx,⟨l,q⟩)]) /\ w1.grownBy w' vo.ownBlock,fun v w1 w'=>∃ x wm,Q0z wm (gp + 1) 115 2 X8h x (qs ++ [(.slice X l.length capx,⟨l,q⟩)]) /\ w1.grownBy wm vo.ownBlock /\ w'=wm.setCell ⟨gp,0,none⟩ x] (by kernel_rfl) rfl (by kernel_rfl) ⟨?g0,?g1,?g2,?g3,?g4,?g5,?g6,?g7,?g8,?g9,?g10,?g11,?g12,?g13,trivial⟩ ?post
    case g0 | g2 | g3 | g6=>
     intro v w1 hx;intro bb hbb;subst hbb;refine ⟨_,fun w=>?_,rfl⟩;go_simp
    case g1 | g5=>
     intro v w1 hx;(repeat intro (zq:v _=_));intro bb hbb;subst hbb;have n0:w1.cell? ⟨gp,0,none⟩=some vo:=(HBO.out.ext (hdr.trans hx)).cell 0;have n1:w1.cell? ⟨g0,k,none⟩=some (.slice X l.length capx):=(hdr.trans hx).cell HEK.out;intro K hK;go_simp;exact hK _ _ (Ext.refl _) rfl
    case g4 | g7=>
     intro v w1 hx;(repeat intro (zq:v _=_));intro bb hbb;subst hbb;refine ⟨_,fun w=>?_,rfl⟩;go_simp
    case g8=>
     intro v w1 hx;(repeat intro (zq:v _=_));intro bb hbb;subst hbb;refine ⟨.bool q,fun w=>?_,rfl⟩;go_simp
     (first | exact HCB.out | (rw [HCB.out]) | (rw [HCB3.out]))
    case g9=>
     intro v w1 hx;(repeat intro (zq:v _=_));intro bb hbb;have o1:bb.eval (.tmp 21)=.slice X l.length capx:=by rw [hbb]; dsimp only; (try simp (discharger:=decide) only [eval_put_ne]); rw [Q0a (by simp only [size_put]; exact (by decide:21 < 32))]; assumption
     have o2:bb.eval (.tmp 24)=.bool q:=by rw [hbb]; dsimp only; (try simp (discharger:=decide) only [eval_put_ne]); rw [Q0a (by simp only [size_put]; exact (by decide:24 < 32))]; assumption
     exact ⟨_,fun w=>X8g _ (.tmp 21) (.tmp 24) rfl o1 o2 (fun w=>J5z w _ _ _ _),rfl⟩
    case g10=>
     intro v w1 hx (q2:v 2=_) (q3:v 3=_) (q4:v 4=_) (q5:v 5=_) (q6:v 6=_) (q7:v 7=_) (q8:v 8=_) (q9:(fun v w'=>v 9=.agg #[.slice X l.length capx,.bool q]) v w1);intro bb hbb;intro K hK;have o1:bb.eval (.tmp 25)=.agg #[.slice X l.length capx,.bool q]:=by rw [hbb]; dsimp only; (try simp (discharger:=decide) only [eval_put_ne]); rw [Q0a (by simp only [size_put]; exact (by decide:25 < 32))]; exact q9
     exact Q3i 45 115 (.tmp 25) rfl o1 (J7p w1 _ _ _ _) (hK _ _ (Ext.box _ _) ⟨_,rfl,Blk.made _ _ _⟩)
    case g11=>
     intro v w1 hx (q0:v 0=_) (q1:v 1=_) (q2:v 2=_) (q3:v 3=_) (q4:v 4=_) (q5:v 5=_) (q6:v 6=_) (q7:v 7=_) (q8:v 8=_) _ (q10:(fun v w'=>∃ g,v 10=.slice (some ⟨g,0,none⟩) 1 1 /\ Blk w' g 115 (X8h (.slice X l.length capx,⟨l,q⟩)).toArray) v w1);intro wl hT;obtain rfl:wl=w1:=hT;intro bb hbb;intro K hK;obtain ⟨g,hg10,hb10⟩:=q10;have o1:bb.eval (.tmp 17)=vo:=by rw [hbb]; dsimp only; (try simp (discharger:=decide) only [eval_put_ne]); rw [Q0a (by simp only [size_put]; exact (by decide:17 < 32))]; exact q1
     have o2:bb.eval (.tmp 26)=.slice (some ⟨g,0,none⟩) 1 1:=by rw [hbb]; dsimp only; (try simp (discharger:=decide) only [eval_put_ne]); rw [Q0a (by simp only [size_put]; exact (by decide:26 < 32))]; exact hg10
     have hxx:=hdr.trans hx;exact Q2i _ _ 45 rfl (gp + 1) 115 i0 (.agg #[.slice none 0 0,.bool false]) 2 32 Tryz.underlying45 hi hz0 hz1 hz2 rfl (by decide) X8h Y8f vo _ (.slice X l.length capx,⟨l,q⟩) o1 (HOW.out.below hxx) ⟨g,0,none⟩ 1 o2 (Q5g hb10) (Z4q (q:=(.slice X l.length capx,⟨l,q⟩)) HOK.out) (by omega) (by decide) (by have:=hxx.size; omega) (fun v' w' h1 h2=>hK _ _ ⟨h1,h2⟩)
    case g12=>
     intro v w1 hx (q0:v 0=_) (q1:v 1=_) (q2:v 2=_) (q3:v 3=_) (q4:v 4=_) (q5:v 5=_) (q6:v 6=_) (q7:v 7=_) (q8:v 8=_) _ _;intro wl hT;replace hT:(fun v w1 w'=>Q0z w' (gp + 1) 115 2 X8h (v 11) (qs ++ [(.slice X l.length capx,⟨l,q⟩)]) /\ w1.grownBy w' vo.ownBlock) v w1 wl:=hT;intro bb hbb;subst hbb;intro K hK;go_simp;exact hK _ _ ⟨rfl,hT⟩
    case g13=>
     intro v w1 hx (q0:v 0=_) (q1:v 1=_) (q2:v 2=_) (q3:v 3=_) (q4:v 4=_) (q5:v 5=_) (q6:v 6=_) (q7:v 7=_) (q8:v 8=_) _ _;intro wl hT;replace hT:(fun v w1 w'=>v 12=.pointer (some ⟨gp,0,none⟩) /\ Q0z w' (gp + 1) 115 2 X8h (v 11) (qs ++ [(.slice X l.length capx,⟨l,q⟩)]) /\ w1.grownBy w' vo.ownBlock) v w1 wl:=hT;intro bb hbb;intro K hK;obtain ⟨hT0,hT1,hT2⟩:=hT;have hxx:=hdr.trans hx;obtain ⟨bp,cp,hsh,_⟩:=hT1.shape;have o1:bb.eval (.tmp 28)=.pointer (some ⟨gp,0,none⟩):=by rw [hbb]; dsimp only; (try simp (discharger:=decide) only [eval_put_ne]); rw [Q0a (by simp only [size_put]; exact (by decide:28 < 32))]; exact hT0
     have o2:bb.eval (.tmp 27)=v 11:=by rw [hbb]; dsimp only; (try simp (discharger:=decide) only [eval_put_ne]); rw [Q0a (by simp only [size_put]; exact (by decide:27 < 32))]
     have hbl:=Go.Tw.Q5l (HBO.out.ext hxx) (HOW.out.below hxx) (by omega) hT2
     exact Q3y _ _ rfl Tryz.J8r (g:=gp) (k:=0) o1 o2 (by rw [hsh]; rfl) (by rw [hsh]; rfl) hbl (by show 0 < 1; omega) (fun v'=>hK _ _ ⟨v 11,wl,hT1,hT2,rfl⟩)
    case post =>
     intro v w1 hx;(iterate 9 intro (zq:v _=_));intro (q9:(fun v w'=>v 9=.agg #[.slice X l.length capx,.bool q]) v w1) (q10:(fun v w'=>∃ g,v 10=.slice (some ⟨g,0,none⟩) 1 1 /\ Blk w' g 115 (X8h (.slice X l.length capx,⟨l,q⟩)).toArray) v w1);intro w2 hE;replace hE:(fun v w1 w'=>∃ x wm,Q0z wm (gp + 1) 115 2 X8h x (qs ++ [(.slice X l.length capx,⟨l,q⟩)]) /\ w1.grownBy wm vo.ownBlock /\ w'=wm.setCell ⟨gp,0,none⟩ x) v w1 w2:=hE;simp only [Flow.acts,Act.put];go_simp;obtain ⟨x,wm,hom,hgm,rfl⟩:=hE;have hxx:=hdr.trans hx;have howx:=HOW.out.below hxx;have hbm:=Go.Tw.Q5l (HBO.out.ext hxx) howx (by omega) hgm
     have HO6:=hid (hom.X0g (p:=⟨gp,0,none⟩) (Nat.lt_succ_self gp) x);have HB6:=hid (hbm.set 0 x);have hxm:Ext wh wm:=Below.grown (HXR.out.trans hxx) hgm (by have:=(HXR.out.trans hxx).size; omega) (fun j hj=>by have:=(howx.lt j hj).1; have:=HGP.out; omega)
     have HX6:=hid (hxm.Y0h (p:=⟨gp,0,none⟩) (by show wh.heap.size <= gp; rw [HGP.out]; exact Nat.le_refl _) x)
     have HR6:=hid ((((HRU.out.ext hxx).snoc (q:=(.slice X l.length capx,⟨l,q⟩)) (HOK.out.below hxx)).grown howx (by decide) hgm).set (k:=0) (u:=x) hbm (by decide))
     have HS6:Hid (gp + 1 <= (wm.setCell ⟨gp,0,none⟩ x).heap.size):=hid (by have:=hbm.lt; simp; omega)
     obtain ⟨w6,hw6⟩:∃ y,wm.setCell ⟨gp,0,none⟩ x=y:=⟨_,rfl⟩;rw [hw6] at HO6 HB6 HX6 HR6 HS6 ⊢;clear hnk hnk1 hn hw6 hom hgm hxx hx hbm hxm howx hdr q9 q10;(repeat clear zq);go_wp2;go_roundw
     case rel=>exact ⟨k + 1,x,qs ++ [(.slice X l.length capx,⟨l,q⟩)],by omega,by go_num,by first | rw [HC2.out,HWC.out] | rw [HC2.out],HB6.out,HO6.out,by rw [List.map_append,HQS.out,HTK1.out]; rfl,HR6.out,HX6.out,HS6.out⟩
     case measure=>simp [intOf]; omega
  . have hkI:¬ (k:Int) < H:=by omega
    have hkn:k=H:=by omega
    subst hkn;have hp:(J2l s n).take k=J2l s n:=by rw [List.take_of_length_le (by rw [HP.out]; omega)]
    obtain ⟨Av,cv',rfl,-⟩:=hown.shape;rw [hqk] at hown hbo;have HOWN:=hid hown;have HQK:=hid hqk;have c0:wr.cell? ⟨gp,0,none⟩=_:=hbo.cell 0;simp only [Go.Tw.gA,Go.Tw.gB] at c0;have hk1:=(K1.out.ext HXH.out).ext hxr;have c1:wr.cell? ⟨gs + 1,0,none⟩=some (.slice none 0 0):=hk1.cell 0;have f1:=hk1.frozen 0;have HK1:=hid hk1;have hxa:Ext w wr:=(HXW.out.trans HXH.out).trans hxr;have HXA:=hid hxa;rw [hp] at hqs;have HQA:=hid hqs;clear hbo hown hqs hru hxr hk1 hxa hp;go_wp2;refine bodyPost_ret (Q1v Tryz.results36 rfl (HK1.out.set 0 _) Tryz.Z9i Tryz.Z7k) rfl ?_;refine ⟨_,rfl,⟨_,qs,rfl,?_,HQA.out,HRU.out.set HK1.out (by decide)⟩,HXA.out.Y0h (p:=⟨gs + 1,0,none⟩) (by show w.heap.size <= gs + 1; have:=HGS.out; omega) _⟩
    have h:=J6l (HOWN.out.X0g (p:=⟨gs + 1,0,none⟩) (by show gs + 1 < gp + 1; omega) (.slice Av k cv')) (show w.heap.size <= gp + 1 by have:=HGS.out; omega)
    have he:=HQK.out;subst he;exact h
end Go.Proofs
namespace Go.Proofs
open Go.RowKit Go.Tw Go.Flow
attribute [local go_sem] Oper.semAt_some
def J8t (s:Q0b) (c:Bool) (k:Nat) (qs:List (Value × Rul)):Prop:=qs.map (fun q=>q.2.classes)=s.hist /\ ∀ j (h:j < qs.length),j < k -> qs[j].2.close=c
theorem J8t.start {s:Q0b} {c:Bool} {qs:List (Value × Rul)} (h:qs.map (·.2)=J2l s 0):J8t s c 0 qs:=by
 refine ⟨?_,fun j _ h=>absurd h (Nat.not_lt_zero _)⟩;have h1:qs.map (fun q=>q.2.classes)=(qs.map (·.2)).map Rul.classes:=by rw [List.map_map]; rfl
 rw [h1,h];unfold J2l;rw [List.map_map]
 apply List.ext_getElem
 . simp
 . intro i h1 h2
   simp [h2]
theorem J8t.step {s:Q0b} {c:Bool} {k:Nat} {qs:List (Value × Rul)} (h:J8t s c k qs) (hk:k < qs.length):J8t s c (k + 1) (qs.set k (qs[k].1,⟨qs[k].2.classes,c⟩)):=by
 obtain ⟨h1,h2⟩:=h;refine ⟨?_,fun j hj hjk=>?_⟩
 . rw [<- h1,List.map_set]
   apply List.ext_getElem
   . simp
   . intro i g1 g2
     rw [List.getElem_set]
     split
     . rename_i e; subst e; simp
     . rfl
 . rw [List.getElem_set]
   split
   . rfl
   . exact h2 j (by simpa using hj) (by omega)
theorem J8t.all {s:Q0b} {c:Bool} {qs:List (Value × Rul)} (h:J8t s c qs.length qs):qs.map (·.2)=always s c:=by
 obtain ⟨h1,h2⟩:=h;unfold always;rw [<- h1,List.map_map];refine List.map_congr_left fun q hq=>?_;obtain ⟨j,hj,rfl⟩:=List.getElem_of_mem hq;have:=h2 j hj hj;show qs[j].2=⟨qs[j].2.classes,c⟩;rw [<- this]
theorem RuR.put {w:World} {qs:List (Value × Rul)} {k:Nat} {c:Bool} (h:RuR w qs) (hk:k < qs.length):RuR w (qs.set k (qs[k].1,⟨qs[k].2.classes,c⟩)):=by
 intro q hq
 rcases List.mem_or_eq_of_mem_set hq with hq | rfl
 . exact h q hq
 . exact (show Q0q w 0 3 (.int .i64) qs[k].1 qs[k].2.classes from h _ (List.getElem_mem hk))
end Go.Proofs
namespace Go.Proofs
open Go.RowKit Go.Tw Go.Flow
attribute [local go_sem] Oper.semAt_some
theorem J2d.policy {s:Q0b} (hS:Q1b s) {n:Nat} {w w':World} {x:Value} (h:J2d 115 w w' x (J2l s n)):Q0w w' x (J2l s n):=by
 refine h.is (by have:=Z5n hS; rw [J3w]; omega) fun r hr=>?_
 unfold J2l at hr;obtain ⟨i,hi,rfl⟩:=List.mem_map.1 hr;have hi':=List.mem_range.1 hi;have:=Z2v hS _ (List.getElem_mem hi');show (s.hist.getD i []).length <= 4096;rw [Q0v _ hi']; omega
theorem J5d (s:Q0b) (n:Nat):Q2d s.hist (J2l s n)=0:=by
 rw [Q4h];unfold J2l;rw [List.map_map]
 apply List.ext_getElem
 . simp
 . intro i h1 h2
   simp [h2]
def J8w (s:Q0b):Bool:=decide (s.hist.length <= 9)
theorem J8k (w:World) (v:Value) (s:Q0b) (hv:Q0h w v s) (he:s.err=0) :
    Calls Tryz.prog 17 #[v] w fun e w'=>e=.returned (.bool (J8w s)) /\ Ext w w':=by
 have hS:=Q1b.of he;have hhl:=Z5n hS;have HV:=hid hv;have HERR:=hid he;have HVS:=hid hS;obtain ⟨a,b,rfl,-⟩:=hv;have ha:∃ A n c,a=.slice A n c:=by obtain ⟨_,_,e,h2⟩:=HV.out; cases e; obtain ⟨A,c,e,-⟩:=h2.ships.opened; exact ⟨A,_,c,e⟩
 have hb:∃ A n c,b=.slice A n c:=by obtain ⟨_,_,e,h2⟩:=HV.out; cases e; obtain ⟨A,c,e,-⟩:=h2.members.opened; exact ⟨A,_,c,e⟩
 obtain ⟨A1,n1,ca1,rfl⟩:=ha;obtain ⟨A2,n2,ca2,rfl⟩:=hb;clear hS he;go_enter Tryz.func17,Tryz.ntmps17;go_wp2_with fail;change Calls _ _ _ (w.alloc (.cells #[.int .i64 s.limit,.slice A1 n1 ca1,.slice A2 n2 ca2] 25)) _;obtain ⟨W,hWW,k0,HXW,eW⟩:=Q1t w 25 #[.int .i64 s.limit,.slice A1 n1 ca1,.slice A2 n2 ca2];rw [hWW];clear hWW;refine (J3a _ _ s (HV.out.ext HXW.out) HERR.out).mono ?_;rintro e wh ⟨xh,rfl,hll,hxh⟩;have hih:=J7w HVS.out hll;obtain ⟨AH,ch,rfl,-,-,-⟩:=hih.opened;have HXH:=hid (HXW.out.trans hxh);obtain ⟨H,hH⟩:∃ x,s.hist.length=x:=⟨_,rfl⟩;have HH:=hid hH;rw [hH] at hhl ⊢;clear hll hih hH hxh k0 eW
 by_cases h9:H <= 9
 . have hI:(H:Int) <= 9:=by omega
   have HD:Hid (J8w s=true):=hid (decide_eq_true (by rw [HH.out]; exact h9))
   go_wp2;go_ret;exact ⟨by rw [HD.out] <;> rfl,HXH.out⟩
 . have hI:¬ (H:Int) <= 9:=by omega
   have HD:Hid (J8w s=false):=hid (decide_eq_false (by rw [HH.out]; exact h9))
   go_wp2;go_ret;exact ⟨by rw [HD.out]; show Ending.returned (.bool (decide ((H:Int) <= 9)))=_; rw [decide_eq_false (show ¬ (H:Int) <= 9 by omega)],HXH.out⟩
end Go.Proofs
namespace Go.Proofs
open Go.RowKit Go.Tw Go.Flow
attribute [local go_sem] Oper.semAt_some
structure J9g (s:Q0b) (need:Int) (F b c d:Int) (x:Option Plan):Prop where
 f:Z2w s need=F
 x:Y2s s need=x
end Go.Proofs
namespace Go.Proofs
open Go.Tw Go.RowKit
theorem _root_.Go.RowKit.Below.ext {a b c:World} (h:Below a.heap.size a b) (k:Ext b c):Below a.heap.size a c:=(show Ext a b from h).trans k
structure J9e (s:Q0b) (need m n1 d1 n2 d2 e3:Int):Prop where
 two:(e3=24 /\ ¬ need <= m) ∨ (e3=0 /\ need <= m /\ (n2 < n1 ∨ n2=n1 /\ d2 <= d1))
 best:∀ p,need <= Q2c s (Q3r s p) -> e3=0 /\ (n2 < Q4z s p ∨ n2=Q4z s p /\ d2 <= X2t s p)
theorem J8n {s:Q0b} {p:List Rul} (he:s.err=0) (hp:Q2d s.hist p=0):Q1g s p=0:=by unfold Q1g; rw [if_neg (fun h=>h he)]; exact hp
theorem J8g {s:Q0b} (hv:Q1b s) {p:List Rul} (hp:Q2d s.hist p=0):p.length <= 1000:=by
 have h:=congrArg List.length (Q4h.1 hp);rw [List.length_map] at h;have:=Z5n hv;omega
theorem J8h {s:Q0b} (hv:Q1b s) {p:List Rul} (hp:Q2d s.hist p=0):∀ k,k < p.length -> (Q0n p k).length <= 8:=fun k hk=>by
 have h:=Q4h.1 hp;have hm:p[k].classes ∈ s.hist:=by rw [<- h]; exact List.mem_map_of_mem (List.getElem_mem hk)
 have:=Z2v hv _ hm;unfold Q0n;rw [Q0v _ hk];omega
theorem J7a (w:World) (v u:Value) (s:Q0b) (p:List Rul) (hv:Q0h w v s) (hu:Q0w w u p) (hs:Q3k s) (he:s.err=0) (hp:Q2d s.hist p=0) :
    Calls Tryz.prog 33 #[v,u] w fun e w'=>∃ x,e=.returned (.tuple #[x,.int .i64 0]) /\ Q0d w' x (Q3r s p) /\ Ext w w':=by
 have h:=X6i w v u s p hv hu hs (J8g (Q1b.of he) hp);rw [J8n he hp,show Y8s s p=Q3r s p from if_pos (J8n he hp)] at h
 exact h
theorem J7g {s:Q0b} (hv:Q1b s) (n:Nat):∀ k,k < (J2l s n).length -> (Q0n (J2l s n) k).length <= 4096:=fun k hk=>by
 have:=J8h hv (J5d s n) k hk;omega
end Go.Proofs
