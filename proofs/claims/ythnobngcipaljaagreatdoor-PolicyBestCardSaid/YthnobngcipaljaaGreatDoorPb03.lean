/- Contract of the reference: Coded. Contracts of the reference: Coded, Always. Contracts of the reference: OnlyPolicy, CheckPolicy. Contracts of the reference: Few, Most. Most and Best of the program at a season that is refused; small facts for the law PolicySearches. What the law PolicyBest asks, as plain facts. Contract of the reference: Alone. Contracts: Weight of the program; what is needed of it. -/
import Derived.Test.YthnobngcipaljaaGreatDoorPp35
import Derived.Test.YthnobngcipaljaaGreatDoorPb02
import Derived.Test.YthnobngcipaljaaGreatDoorPb01
import Derived.Lib.MinMax
set_option maxRecDepth 1000000
set_option maxHeartbeats 64000000
set_option linter.unusedVariables false
set_option linter.unusedSimpArgs false
set_option linter.constructorNameAsVariable false
open Go.Lib (hid)
namespace Go.Proofs
open Go.RowKit Go.Tw Go.Flow
attribute [local go_sem] Oper.semAt_some
def cdN (n k:Nat):Nat:=n / 2 ^ k
def cdB (n k:Nat):Bool:=n.testBit k
theorem J7h (n:Nat):cdN n 0=n:=by unfold cdN; simp
theorem J6i (s:Q0b) (n:Nat) {k:Nat} (hk:k < s.hist.length):(J2l s n).take (k + 1)=(J2l s n).take k ++ [⟨s.hist.getD k [],cdB n k⟩]:=by
 have hl:k < (J2l s n).length:=by unfold J2l; simpa using hk
 rw [List.take_succ_eq_append_getElem hl]
 congr 2
 unfold J2l;simp [cdB]
theorem J3w (s:Q0b) (n:Nat):(J2l s n).length=s.hist.length:=by unfold J2l; simp
theorem J5z (w:World) (v:Value) (s:Q0b) (n:Nat) (hv:Q0h w v s) (he:s.err=0) (hn:n < 2 ^ 63) :
    Calls Tryz.prog 36 #[v,.int .i64 (n:Int)] w fun e w'=>∃ x,e=.returned x /\ J2d 115 w w' x (J2l s n) /\ Ext w w':=by
 obtain ⟨i0,hi,hz0,hz1,hz2⟩:=info_parts Tryz.Z9v;have hS:=Q1b.of he;have hhl:=Z5n hS;have hhp:=J6g hS;have HV:=hid hv;have HERR:=hid he;have h8:Hid (∀ h ∈ s.hist,h.length <= 6):=Z2v hS;obtain ⟨a,b,rfl,-⟩:=hv;have ha:∃ A n c,a=.slice A n c:=by obtain ⟨_,_,e,h2⟩:=HV.out; cases e; obtain ⟨A,c,e,-⟩:=h2.ships.opened; exact ⟨A,_,c,e⟩
 have hb:∃ A n c,b=.slice A n c:=by obtain ⟨_,_,e,h2⟩:=HV.out; cases e; obtain ⟨A,c,e,-⟩:=h2.members.opened; exact ⟨A,_,c,e⟩
 obtain ⟨A1,n1,ca1,rfl⟩:=ha;obtain ⟨A2,n2,ca2,rfl⟩:=hb;have HP:=hid (J3w s n);have HTK:Hid (∀ k,k < s.hist.length -> (J2l s n).take (k + 1)=(J2l s n).take k ++ [⟨s.hist.getD k [],cdB n k⟩]):=fun k hk=>J6i s n hk;clear hS he;go_enter Tryz.func36,Tryz.ntmps36;go_wp2_with fail;obtain ⟨W,hWW,k0,k1,HXW,eW⟩:=Q4e w 25 #[.int .i64 s.limit,.slice A1 n1 ca1,.slice A2 n2 ca2] 47 #[.slice none 0 0];rw [hWW];clear hWW;have HV1:=hid (HV.out.ext HXW.out);obtain ⟨gs,hgs⟩:∃ x,w.heap.size=x:=⟨_,rfl⟩;have HGS:=hid hgs;rw [hgs] at k0 k1 eW ⊢;have K1:=hid k1;have c0:=k0.cell 0;have c1:=k0.cell 1;have c2:=k0.cell 2;simp only [Go.Tw.gA,Go.Tw.gB,Go.Tw.gC] at c0 c1 c2;clear k0 k1 hgs;go_wp2_with (go_at_call 44; refine (J2q _ _ s HV1.out HERR.out).mono ?_; rintro e wh ⟨xh,rfl,hll,hxh⟩; refine halted ?_);obtain ⟨vs,hoh,hrl⟩:=hll;have hlu:=hrl.1
 rcases hoh.cells2 with ⟨rfl,hve⟩ | ⟨g0,cc,rfl,hcc,hbg,hgl,hcl⟩
 . exfalso
   rw [hve] at hlu;simp at hlu;omega
 obtain ⟨H,hH⟩:∃ x,s.hist.length=x:=⟨_,rfl⟩;rw [hH] at hlu hhl HTK HP;rw [hlu] at hcc;have HLU:=hid hlu;have HHH:=hid hH;have HCL:=hid hcl;have HRL:=hid hrl;have hxp:=Ext.box wh (.cells #[.slice none 0 0] 47);have hbp:=Blk.made wh 47 #[.slice none 0 0];have hes:(wh.alloc (.cells #[.slice none 0 0] 47)).heap.size=wh.heap.size + 1:=by simp
 rw [hlu];unfold Q1i;go_wp2_with fail;obtain ⟨gp,hgp⟩:∃ x,wh.heap.size=x:=⟨_,rfl⟩;obtain ⟨wp,hwp⟩:∃ X,wh.alloc (.cells #[.slice none 0 0] 47)=X:=⟨_,rfl⟩;rw [hwp,hgp] at hbp hes;rw [hwp] at hxp;rw [hwp,hgp];have HGP:=hid hgp;have HXH:=hid hxh;have HXP:=hid hxp;have hgW:gs + 1 < gp:=by have:=hxh.size; omega
 clear hwp hgp hoh hrl hcl hlu hH hhp hxh c0 c1 c2
 go_loopw [1,7] (fun c i wr=>∃ (k:Nat) (vo:Value) (qs:List (Value × Rul)),k <= H /\ i=.int .i64 k /\ c=.int .i64 (cdN n k:Nat) /\ Blk wr gp 47 #[vo] /\ Q0z wr (gp + 1) 115 2 X8h vo qs /\ qs.map (·.2)=(J2l s n).take k /\ RuR wr qs /\ Ext wh wr /\ gp + 1 <= wr.heap.size) (fun _ i _=>H - (intOf i).toNat)
 case atStart=>exact ⟨0,_,[],Nat.zero_le _,rfl,by rw [J7h],hbp,Q0z.nil _ _ _ _ _,rfl,(fun q hq=>by simp at hq),HXP.out,by omega⟩
 case round =>
  obtain ⟨k,vo,qs,hk,rfl,rfl,hbo,hown,hqs,hru,hxr,hsz⟩:=hrel;have hqk:qs.length=k:=by rw [<- List.length_map (f:=(·.2)),hqs,List.length_take,HP.out]; omega
  have HQS:=hid hqs;have HRU:=hid hru;have HBO:=hid hbo;have HOW:=hid hown;have HXR:=hid hxr
  by_cases hlt:k < H
  . have hkI:(k:Int) < H:=by omega
    have hek:=hxr.cell (HCL.out k (by rw [HLU.out]; exact hlt))
    rw [Nat.zero_add] at hek;have hok:=HRL.out.2 k (by rw [HHH.out]; exact hlt)
    rw [Q0v _ (show k < vs.length by rw [HLU.out]; exact hlt)] at hok
    obtain ⟨hv1,hhv⟩:∃ x,vs[k]'(by rw [HLU.out]; exact hlt)=x:=⟨_,rfl⟩
    have hek:wr.cell? ⟨g0,k,none⟩=some (vs[k]'(by rw [HLU.out]; exact hlt)):=hek
    rw [hhv] at hek hok;obtain ⟨X,capx,rfl,hcx⟩:=hok.shape;have htk:=HTK.out k hlt;have hl6:(s.hist.getD k []).length <= 6:=by rw [Q0v _ (by rw [HHH.out]; exact hlt)]; exact h8.out _ (List.getElem_mem _)
    obtain ⟨l,hl⟩:∃ x,s.hist.getD k []=x:=⟨_,rfl⟩;rw [hl] at hek hok htk hl6;have HEK:=hid hek;have HTK1:=hid htk;have HOK:=hid (hok.below hxr);have hcb:((cdN n k:Nat):Int).tmod 2=1 ↔ cdB n k=true:=by
     have:=J6e n k;unfold cdN cdB;rw [<- this]; simp
    have hcb2:(((cdN n k:Nat):Int).tmod 2 == 1)=cdB n k:=J6e n k;have hch:((cdN n k:Nat):Int).tdiv 2=((cdN n (k + 1):Nat):Int):=J6u n k;have hnk:cdN n k <= n:=Nat.div_le_self _ _;have hnk1:cdN n (k + 1) <= n:=Nat.div_le_self _ _;obtain ⟨c,hc⟩:∃ x,cdN n k=x:=⟨_,rfl⟩;obtain ⟨c2,hc2⟩:∃ x,cdN n (k + 1)=x:=⟨_,rfl⟩;obtain ⟨q,hq⟩:∃ x,cdB n k=x:=⟨_,rfl⟩;rw [hc] at hcb2 hch hnk ⊢;rw [hc2] at hch hnk1;rw [hq] at hcb2 HTK1;have hcb3:((c:Int) % 2 == 1)=q:=by rw [<- hcb2,Int.tmod_eq_emod_of_nonneg (by omega)]
    have HC2:=hid hc2;have HCB:=hid hcb2;have HCB3:=hid hcb3;have HWC:Hid (wrap64 (c2:Int)=c2):=hid (by unfold wrap64; omega)
    obtain ⟨wq,rfl⟩:∃ Z,Z=wr:=⟨_,rfl⟩;have hdr:=(Ext.refl wq).drew;clear hbo hown hqs hru hxr hek hok htk hl hhv hc hq hcb hc2 hcb2 hcb3;go_wp2_with fail;refine Flow.Q4m [.p,.w,.p,.p,.p,.w,.p,.p,.p,.p,.w,.last,.last,.last] [0,1,2,3,4,5,6,7,8,9,10,11,12,13] [[],[0],[],[],[2,3],[2,3,4],[],[6],[6,7],[2,3,4,5,6,7,8],[2,3,4,5,6,7,8,9],[0,1,2,3,4,5,6,7,8,9,10],[0,1,2,3,4,5,6,7,8,9,10,11],[0,1,2,3,4,5,6,7,8,9,10,11,12]] [11,12,13]
     [.c 0 (.pointer (some ⟨gp,0,none⟩)),.c 1 (vo),.c 2 (.slice (some ⟨g0,0,none⟩) H cc),.c 3 (.int .i64 (k:Int)),.c 4 (.pointer (some ⟨g0,k,none⟩)),.c 5 (.slice X l.length capx),.c 6 (.int .i64 (c:Int)),.c 7 (.int .i64 ((c:Int).tmod 2)),.c 8 (.bool q),⟨fun v wz=>(fun v w'=>v 9=.agg #[.slice X l.length capx,.bool q]) v wz,by intro _ _ _ _ h; exact h⟩,⟨fun v wz=>(fun v w'=>∃ g,v 10=.slice (some ⟨g,0,none⟩) 1 1 /\ Blk w' g 115 (X8h (.slice X l.length capx,⟨l,q⟩)).toArray) v wz,by rintro v a b hx ⟨g,h1,h2⟩; exact ⟨g,h1,h2.ext hx⟩⟩,.none,.none,.none]
     [fun v w1 w'=>Q0z w' (gp + 1) 115 2 X8h (v 11) (qs ++ [(.slice X l.length capx,⟨l,q⟩)]) /\ w1.grownBy w' vo.ownBlock,fun v w1 w'=>v 12=.pointer (some ⟨gp,0,none⟩) /\ Q0z w' (gp + 1) 115 2 X8h (v 11) (qs ++ [(.slice X l.length capx,⟨l,q⟩)]) /\ w1.grownBy w' vo.ownBlock,fun v w1 w'=>∃ x wm,Q0z wm (gp + 1) 115 2 X8h x (qs ++ [(.slice X l.length capx,⟨l,q⟩)]) /\ w1.grownBy wm vo.ownBlock /\ w'=wm.setCell ⟨gp,0,none⟩ x] (by kernel_rfl) rfl (by kernel_rfl) ⟨?g0,?g1,?g2,?g3,?g4,?g5,?g6,?g7,?g8,?g9,?g10,?g11,?g12,?g13,trivial⟩ ?post
    case g0 | g2 | g3 | g6=>
     intro v w1 hx;intro bb hbb;subst hbb;refine ⟨_,fun w=>?_,rfl⟩;go_simp
    case g1 | g5=>
     intro v w1 hx;(repeat intro (zq:v _=_));intro bb hbb;subst hbb;have n0:w1.cell? ⟨gp,0,none⟩=some vo:=(HBO.out.ext (hdr.trans hx)).cell 0;have n1:w1.cell? ⟨g0,k,none⟩=some (.slice X l.length capx):=(hdr.trans hx).cell HEK.out;intro K hK;go_simp;exact hK _ _ (Ext.refl _) rfl
    case g4 | g7=>
     intro v w1 hx;(repeat intro (zq:v _=_));intro bb hbb;subst hbb;refine ⟨_,fun w=>?_,rfl⟩;go_simp
    case g8=>
     intro v w1 hx;(repeat intro (zq:v _=_));intro bb hbb;subst hbb;refine ⟨.bool q,fun w=>?_,rfl⟩;go_simp
     (first | exact HCB.out | (rw [HCB.out]) | (rw [HCB3.out]))
    case g9=>
     intro v w1 hx;(repeat intro (zq:v _=_));intro bb hbb;have o1:bb.eval (.tmp 21)=.slice X l.length capx:=by rw [hbb]; dsimp only; (try simp (discharger:=decide) only [eval_put_ne]); rw [Q0a (by simp only [size_put]; exact (by decide:21 < 32))]; assumption
     have o2:bb.eval (.tmp 24)=.bool q:=by rw [hbb]; dsimp only; (try simp (discharger:=decide) only [eval_put_ne]); rw [Q0a (by simp only [size_put]; exact (by decide:24 < 32))]; assumption
     exact ⟨_,fun w=>X8g _ (.tmp 21) (.tmp 24) rfl o1 o2 (fun w=>J5j w _ _ _ _),rfl⟩
    case g10=>
     intro v w1 hx (q2:v 2=_) (q3:v 3=_) (q4:v 4=_) (q5:v 5=_) (q6:v 6=_) (q7:v 7=_) (q8:v 8=_) (q9:(fun v w'=>v 9=.agg #[.slice X l.length capx,.bool q]) v w1);intro bb hbb;intro K hK;have o1:bb.eval (.tmp 25)=.agg #[.slice X l.length capx,.bool q]:=by rw [hbb]; dsimp only; (try simp (discharger:=decide) only [eval_put_ne]); rw [Q0a (by simp only [size_put]; exact (by decide:25 < 32))]; exact q9
     exact Q3i 45 115 (.tmp 25) rfl o1 (J6q w1 _ _ _ _) (hK _ _ (Ext.box _ _) ⟨_,rfl,Blk.made _ _ _⟩)
    case g11=>
     intro v w1 hx (q0:v 0=_) (q1:v 1=_) (q2:v 2=_) (q3:v 3=_) (q4:v 4=_) (q5:v 5=_) (q6:v 6=_) (q7:v 7=_) (q8:v 8=_) _ (q10:(fun v w'=>∃ g,v 10=.slice (some ⟨g,0,none⟩) 1 1 /\ Blk w' g 115 (X8h (.slice X l.length capx,⟨l,q⟩)).toArray) v w1);intro wl hT;obtain rfl:wl=w1:=hT;intro bb hbb;intro K hK;obtain ⟨g,hg10,hb10⟩:=q10;have o1:bb.eval (.tmp 17)=vo:=by rw [hbb]; dsimp only; (try simp (discharger:=decide) only [eval_put_ne]); rw [Q0a (by simp only [size_put]; exact (by decide:17 < 32))]; exact q1
     have o2:bb.eval (.tmp 26)=.slice (some ⟨g,0,none⟩) 1 1:=by rw [hbb]; dsimp only; (try simp (discharger:=decide) only [eval_put_ne]); rw [Q0a (by simp only [size_put]; exact (by decide:26 < 32))]; exact hg10
     have hxx:=hdr.trans hx;exact Q2i _ _ 45 rfl (gp + 1) 115 i0 (.agg #[.slice none 0 0,.bool false]) 2 32 Tryz.underlying45 hi hz0 hz1 hz2 rfl (by decide) X8h Y8f vo _ (.slice X l.length capx,⟨l,q⟩) o1 (HOW.out.below hxx) ⟨g,0,none⟩ 1 o2 (Q5g hb10) (Z4q (q:=(.slice X l.length capx,⟨l,q⟩)) HOK.out) (by omega) (by decide) (by have:=hxx.size; omega) (fun v' w' h1 h2=>hK _ _ ⟨h1,h2⟩)
    case g12=>
     intro v w1 hx (q0:v 0=_) (q1:v 1=_) (q2:v 2=_) (q3:v 3=_) (q4:v 4=_) (q5:v 5=_) (q6:v 6=_) (q7:v 7=_) (q8:v 8=_) _ _;intro wl hT;replace hT:(fun v w1 w'=>Q0z w' (gp + 1) 115 2 X8h (v 11) (qs ++ [(.slice X l.length capx,⟨l,q⟩)]) /\ w1.grownBy w' vo.ownBlock) v w1 wl:=hT;intro bb hbb;subst hbb;intro K hK;go_simp;exact hK _ _ ⟨rfl,hT⟩
    case g13=>
     intro v w1 hx (q0:v 0=_) (q1:v 1=_) (q2:v 2=_) (q3:v 3=_) (q4:v 4=_) (q5:v 5=_) (q6:v 6=_) (q7:v 7=_) (q8:v 8=_) _ _;intro wl hT;replace hT:(fun v w1 w'=>v 12=.pointer (some ⟨gp,0,none⟩) /\ Q0z w' (gp + 1) 115 2 X8h (v 11) (qs ++ [(.slice X l.length capx,⟨l,q⟩)]) /\ w1.grownBy w' vo.ownBlock) v w1 wl:=hT;intro bb hbb;intro K hK;obtain ⟨hT0,hT1,hT2⟩:=hT;have hxx:=hdr.trans hx;obtain ⟨bp,cp,hsh,_⟩:=hT1.shape;have o1:bb.eval (.tmp 28)=.pointer (some ⟨gp,0,none⟩):=by rw [hbb]; dsimp only; (try simp (discharger:=decide) only [eval_put_ne]); rw [Q0a (by simp only [size_put]; exact (by decide:28 < 32))]; exact hT0
     have o2:bb.eval (.tmp 27)=v 11:=by rw [hbb]; dsimp only; (try simp (discharger:=decide) only [eval_put_ne]); rw [Q0a (by simp only [size_put]; exact (by decide:27 < 32))]
     have hbl:=Go.Tw.Q5l (HBO.out.ext hxx) (HOW.out.below hxx) (by omega) hT2
     exact Q3y _ _ rfl Tryz.J7m (g:=gp) (k:=0) o1 o2 (by rw [hsh]; rfl) (by rw [hsh]; rfl) hbl (by show 0 < 1; omega) (fun v'=>hK _ _ ⟨v 11,wl,hT1,hT2,rfl⟩)
    case post =>
     intro v w1 hx;(iterate 9 intro (zq:v _=_));intro (q9:(fun v w'=>v 9=.agg #[.slice X l.length capx,.bool q]) v w1) (q10:(fun v w'=>∃ g,v 10=.slice (some ⟨g,0,none⟩) 1 1 /\ Blk w' g 115 (X8h (.slice X l.length capx,⟨l,q⟩)).toArray) v w1);intro w2 hE;replace hE:(fun v w1 w'=>∃ x wm,Q0z wm (gp + 1) 115 2 X8h x (qs ++ [(.slice X l.length capx,⟨l,q⟩)]) /\ w1.grownBy wm vo.ownBlock /\ w'=wm.setCell ⟨gp,0,none⟩ x) v w1 w2:=hE;simp only [Flow.acts,Act.put];go_simp;obtain ⟨x,wm,hom,hgm,rfl⟩:=hE;have hxx:=hdr.trans hx;have howx:=HOW.out.below hxx;have hbm:=Go.Tw.Q5l (HBO.out.ext hxx) howx (by omega) hgm
     have HO6:=hid (hom.X0g (p:=⟨gp,0,none⟩) (Nat.lt_succ_self gp) x);have HB6:=hid (hbm.set 0 x);have hxm:Ext wh wm:=Below.grown (HXR.out.trans hxx) hgm (by have:=(HXR.out.trans hxx).size; omega) (fun j hj=>by have:=(howx.lt j hj).1; have:=HGP.out; omega)
     have HX6:=hid (hxm.Y0h (p:=⟨gp,0,none⟩) (by show wh.heap.size <= gp; rw [HGP.out]; exact Nat.le_refl _) x)
     have HR6:=hid ((((HRU.out.ext hxx).snoc (q:=(.slice X l.length capx,⟨l,q⟩)) (HOK.out.below hxx)).grown howx (by decide) hgm).set (k:=0) (u:=x) hbm (by decide))
     have HS6:Hid (gp + 1 <= (wm.setCell ⟨gp,0,none⟩ x).heap.size):=hid (by have:=hbm.lt; simp; omega)
     obtain ⟨w6,hw6⟩:∃ y,wm.setCell ⟨gp,0,none⟩ x=y:=⟨_,rfl⟩;rw [hw6] at HO6 HB6 HX6 HR6 HS6 ⊢;clear hnk hnk1 hn hw6 hom hgm hxx hx hbm hxm howx hdr q9 q10;(repeat clear zq);go_wp2;go_roundw
     case rel=>exact ⟨k + 1,x,qs ++ [(.slice X l.length capx,⟨l,q⟩)],by omega,by go_num,by first | rw [HC2.out,HWC.out] | rw [HC2.out],HB6.out,HO6.out,by rw [List.map_append,HQS.out,HTK1.out]; rfl,HR6.out,HX6.out,HS6.out⟩
     case measure=>simp [intOf]; omega
  . have hkI:¬ (k:Int) < H:=by omega
    have hkn:k=H:=by omega
    subst hkn;have hp:(J2l s n).take k=J2l s n:=by rw [List.take_of_length_le (by rw [HP.out]; omega)]
    obtain ⟨Av,cv',rfl,-⟩:=hown.shape;rw [hqk] at hown hbo;have HOWN:=hid hown;have HQK:=hid hqk;have c0:wr.cell? ⟨gp,0,none⟩=_:=hbo.cell 0;simp only [Go.Tw.gA,Go.Tw.gB] at c0;have hk1:=(K1.out.ext HXH.out).ext hxr;have c1:wr.cell? ⟨gs + 1,0,none⟩=some (.slice none 0 0):=hk1.cell 0;have f1:=hk1.frozen 0;have HK1:=hid hk1;have hxa:Ext w wr:=(HXW.out.trans HXH.out).trans hxr;have HXA:=hid hxa;rw [hp] at hqs;have HQA:=hid hqs;clear hbo hown hqs hru hxr hk1 hxa hp;go_wp2;refine bodyPost_ret (Q1v Tryz.results36 rfl (HK1.out.set 0 _) Tryz.Z9i Tryz.Z7k) rfl ?_;refine ⟨_,rfl,⟨_,qs,rfl,?_,HQA.out,HRU.out.set HK1.out (by decide)⟩,HXA.out.Y0h (p:=⟨gs + 1,0,none⟩) (by show w.heap.size <= gs + 1; have:=HGS.out; omega) _⟩
    have h:=J5v (HOWN.out.X0g (p:=⟨gs + 1,0,none⟩) (by show gs + 1 < gp + 1; omega) (.slice Av k cv')) (show w.heap.size <= gp + 1 by have:=HGS.out; omega)
    have he:=HQK.out;subst he;exact h
end Go.Proofs
namespace Go.Proofs
open Go.RowKit Go.Tw Go.Flow
attribute [local go_sem] Oper.semAt_some
def J7n (s:Q0b) (c:Bool) (k:Nat) (qs:List (Value × Rul)):Prop:=qs.map (fun q=>q.2.classes)=s.hist /\ ∀ j (h:j < qs.length),j < k -> qs[j].2.close=c
theorem J7n.start {s:Q0b} {c:Bool} {qs:List (Value × Rul)} (h:qs.map (·.2)=J2l s 0):J7n s c 0 qs:=by
 refine ⟨?_,fun j _ h=>absurd h (Nat.not_lt_zero _)⟩;have h1:qs.map (fun q=>q.2.classes)=(qs.map (·.2)).map Rul.classes:=by rw [List.map_map]; rfl
 rw [h1,h];unfold J2l;rw [List.map_map]
 apply List.ext_getElem
 . simp
 . intro i h1 h2
   simp [h2]
theorem J7n.step {s:Q0b} {c:Bool} {k:Nat} {qs:List (Value × Rul)} (h:J7n s c k qs) (hk:k < qs.length):J7n s c (k + 1) (qs.set k (qs[k].1,⟨qs[k].2.classes,c⟩)):=by
 obtain ⟨h1,h2⟩:=h;refine ⟨?_,fun j hj hjk=>?_⟩
 . rw [<- h1,List.map_set]
   apply List.ext_getElem
   . simp
   . intro i g1 g2
     rw [List.getElem_set]
     split
     . rename_i e; subst e; simp
     . rfl
 . rw [List.getElem_set]
   split
   . rfl
   . exact h2 j (by simpa using hj) (by omega)
theorem J7n.all {s:Q0b} {c:Bool} {qs:List (Value × Rul)} (h:J7n s c qs.length qs):qs.map (·.2)=always s c:=by
 obtain ⟨h1,h2⟩:=h;unfold always;rw [<- h1,List.map_map];refine List.map_congr_left fun q hq=>?_;obtain ⟨j,hj,rfl⟩:=List.getElem_of_mem hq;have:=h2 j hj hj;show qs[j].2=⟨qs[j].2.classes,c⟩;rw [<- this]
theorem RuR.put {w:World} {qs:List (Value × Rul)} {k:Nat} {c:Bool} (h:RuR w qs) (hk:k < qs.length):RuR w (qs.set k (qs[k].1,⟨qs[k].2.classes,c⟩)):=by
 intro q hq
 rcases List.mem_or_eq_of_mem_set hq with hq | rfl
 . exact h q hq
 . exact (show Q0q w 0 3 (.int .i64) qs[k].1 qs[k].2.classes from h _ (List.getElem_mem hk))
end Go.Proofs
namespace Go.Proofs
open Go.RowKit Go.Tw Go.Flow
attribute [local go_sem] Oper.semAt_some
theorem J7j {h:List (List Int)} {p:List Rul} (hl:p.length=h.length) (he:∀ j,j < h.length -> Q0n p j=h.getD j []):Q2d h p=0:=by
 rw [Q4h]
 apply List.ext_getElem
 . simpa using hl
 . intro i h1 h2
   have:=he i h2;unfold Q0n at this;rw [Q0v _ h2,Q0v _ (by omega)] at this
   simpa using this
theorem J7k {h:List (List Int)} {p:List Rul} {j:Nat} (hl:p.length=h.length) (hj:j < h.length) (hne:Q0n p j ≠ h.getD j []):Q2d h p=11:=by
 unfold Q2d;rw [if_neg (by simpa using hl),if_pos]
 intro he
 apply hne
 unfold Q0n;rw [Q0v _ hj,Q0v _ (show j < p.length by omega)]
 have:=congrArg (fun l=>l[j]?) he
 simpa [List.getElem?_eq_getElem hj,List.getElem?_eq_getElem (show j < p.length by omega)] using this
theorem J7f {h:List (List Int)} {p:List Rul} (hl:p.length ≠ h.length):Q2d h p=2:=by unfold Q2d; rw [if_pos hl]
theorem J2n (w:World) (v u:Value) (s:Q0b) (p:List Rul) (hv:Q0h w v s) (hu:Q0w w u p) (he:s.err=0) :
    Calls Tryz.prog 28 #[v,u] w fun e w'=>e=.returned (.int .i64 (Q2d s.hist p)) /\ Ext w w':=by
 have hS:=Q1b.of he;have hhl:=Z5n hS;have hhp:=J6g hS;have HVS:=hid hS;have HV:=hid hv;have HERR:=hid he;obtain ⟨a,b,rfl,-⟩:=hv;have ha:∃ A n c,a=.slice A n c:=by obtain ⟨_,_,e,h2⟩:=HV.out; cases e; obtain ⟨A,c,e,-⟩:=h2.ships.opened; exact ⟨A,_,c,e⟩
 have hb:∃ A n c,b=.slice A n c:=by obtain ⟨_,_,e,h2⟩:=HV.out; cases e; obtain ⟨A,c,e,-⟩:=h2.members.opened; exact ⟨A,_,c,e⟩
 obtain ⟨A1,n1,ca1,rfl⟩:=ha;obtain ⟨A2,n2,ca2,rfl⟩:=hb;obtain ⟨R,rfl,hr⟩:=hu;obtain ⟨AR,cr,rfl,-,-,hcr⟩:=hr.opened;have HCR:=hid hcr;obtain ⟨n,hn⟩:∃ n,p.length=n:=⟨_,rfl⟩;have HN:=hid hn;rw [hn] at HCR ⊢;clear hS he hr hcr hn;go_enter Tryz.func28,Tryz.ntmps28;go_wp2_with fail;obtain ⟨W,hWW,k0,k1,HXW,eW⟩:=Q4e w 25 #[.int .i64 s.limit,.slice A1 n1 ca1,.slice A2 n2 ca2] 47 #[.slice AR n cr];rw [hWW];clear hWW;have HV1:=hid (HV.out.ext HXW.out);obtain ⟨gs,hgs⟩:∃ x,w.heap.size=x:=⟨_,rfl⟩;rw [hgs] at k0 k1 eW ⊢;have K1:=hid k1;have c0:=k0.cell 0;have c1:=k0.cell 1;have c2:=k0.cell 2;simp only [Go.Tw.gA,Go.Tw.gB,Go.Tw.gC] at c0 c1 c2;clear k0 k1 hgs;go_wp2_with (go_at_call 44; refine (J2q _ _ s HV1.out HERR.out).mono ?_; rintro e wh ⟨xh,rfl,hll,hxh⟩; refine halted ?_);have hih:=J5s HVS.out hll;obtain ⟨AH,ch,rfl,-,-,hch⟩:=hih.opened;obtain ⟨H,hH⟩:∃ x,s.hist.length=x:=⟨_,rfl⟩;have HH:=hid hH;have HCH:=hid hch;rw [hH] at hhl HCH ⊢;have HXA:=hid (HXW.out.trans hxh);have HK1:=hid (K1.out.ext hxh);have d0:wh.cell? ⟨gs + 1,0,none⟩=some (.slice AR n cr):=HK1.out.cell 0;clear hll hih hch hH hhp hxh c0 c1 c2;unfold Q1i
 by_cases hnH:n=H
 . have hI:((n:Int) != (H:Int))=false:=by simp [hnH]
   subst hnH;go_wp2_with fail;clear d0
   go_loopw [6] (fun i wr=>∃ k:Nat,k <= n /\ i=.int .i64 k /\ (∀ j,j < k -> Q0n p j=s.hist.getD j []) /\ Ext wh wr) (fun i _=>n - (intOf i).toNat)
   case atStart=>exact ⟨0,Nat.zero_le _,rfl,fun j h=>absurd h (Nat.not_lt_zero _),Ext.refl _⟩
   case round =>
    obtain ⟨k,hk,rfl,heq,hx0⟩:=hrel;have HEQ:=hid heq;have HX0:=hid hx0;have hxr:Ext w wr:=HXA.out.trans hx0;have HKR:=hid (HK1.out.ext hx0)
    by_cases hlt:k < n
    . have hkI:(k:Int) < n:=by omega
      obtain ⟨b1,o1,x,rfl,-,e0,-,hi1⟩:=HCR.out k hlt;obtain ⟨b2,o2,y,rfl,-,f0,hi2⟩:=HCH.out k hlt;replace e0:=hxr.cell e0;replace f0:=hx0.cell f0;have HSI:=hid (fun (w1:World) (hx:Ext wr w1)=>Q8i w1 _ _ _ _ ((hi1.ext hxr).ext hx) ((hi2.ext hx0).ext hx));obtain ⟨X,capx,rfl,-,-,-⟩:=hi1.opened;obtain ⟨Y,capy,rfl,-,-,-⟩:=hi2.opened;obtain ⟨cp,hcp⟩:∃ c,Q0n p k=c:=⟨_,rfl⟩;obtain ⟨cq,hcq⟩:∃ c,s.hist.getD k []=c:=⟨_,rfl⟩;rw [hcp,hcq] at HSI;rw [hcp] at e0;rw [hcq] at f0;have HCP:=hid hcp;have HCQ:=hid hcq;have HE0:=hid e0;have HF0:=hid f0;obtain ⟨q,hq⟩:∃ d,decide (cp=cq)=d:=⟨_,rfl⟩;have HQ:=hid hq;rw [hq] at HSI;have hdr:=(Ext.refl wr).drew;clear heq hx0 hxr hi1 hi2 hcp hcq e0 f0 hq;obtain ⟨wq,rfl⟩:∃ Z,Z=wr:=⟨_,rfl⟩;go_wp2_with fail;refine Flow.Q1o [.p,.w,.p,.p,.p,.w,.p,.p,.p,.w,.w,.p] [0,1,2,3,4,5,6,7,8,9,10,11] [[],[0],[],[1,2],[3],[4],[],[],[6,7],[8],[5,9],[10]]
       [.c 0 (.pointer (some ⟨gs + 1,0,none⟩)),.c 1 (.slice (some ⟨b1,o1,none⟩) n cr),.c 2 (.int .i64 (k:Int)),.c 3 (.pointer (some ⟨b1,o1 + k * 2,none⟩)),.c 4 (.pointer (some ⟨b1,o1 + k * 2,none⟩)),.c 5 (.slice X cp.length capx),.c 6 (.slice (some ⟨b2,o2,none⟩) n ch),.c 7 (.int .i64 (k:Int)),.c 8 (.pointer (some ⟨b2,o2 + k,none⟩)),.c 9 (.slice Y cq.length capy),.c 10 (.bool q),.c 11 (.bool (!q))]
       (by kernel_rfl) rfl (by kernel_rfl) ⟨?g0,?g1,?g2,?g3,?g4,?g5,?g6,?g7,?g8,?g9,?g10,?g11,trivial⟩ ?post
      case g0 | g2 | g6 | g7=>
       intro v w1 hx;intro bb hbb;subst hbb;refine ⟨_,fun w=>?_,rfl⟩;go_simp
      case g1=>
       intro v w1 hx;(repeat intro (zq:v _=_));intro bb hbb;subst hbb;have n0:w1.cell? ⟨gs + 1,0,none⟩=some (.slice (some ⟨b1,o1,none⟩) n cr):=(HKR.out.ext (hdr.trans hx)).cell 0;intro K hK;go_simp;exact hK _ _ (Ext.refl _) rfl
      case g3 | g4 | g8 | g11=>
       intro v w1 hx;(repeat intro (zq:v _=_));intro bb hbb;subst hbb;refine ⟨_,fun w=>?_,rfl⟩;go_simp
      case g5=>
       intro v w1 hx;(repeat intro (zq:v _=_));intro bb hbb;subst hbb;have n0:=(hdr.trans hx).cell HE0.out;intro K hK;go_simp;exact hK _ _ (Ext.refl _) rfl
      case g9=>
       intro v w1 hx;(repeat intro (zq:v _=_));intro bb hbb;subst hbb;have n0:=(hdr.trans hx).cell HF0.out;intro K hK;go_simp;exact hK _ _ (Ext.refl _) rfl
      case g10=>
       intro v w1 hx;(repeat intro (zq:v _=_));intro bb hbb;subst hbb;intro K hK;go_simp;refine Q0e (HSI.out w1 (hdr.trans hx)) ?_;rintro e w2 ⟨rfl,hx2⟩;exact ⟨_,rfl,hK _ _ hx2 rfl⟩
      case post =>
       intro v w1 hx;(iterate 12 intro (zq:v _=_));simp only [Flow.All,Flow.acts,Act.put];go_simp;have HX6:=hid (HX0.out.trans (hdr.trans hx));clear hx hdr;(repeat clear zq);cases q with
       | false =>
         have hne:Q2d s.hist p=11:=J7k (by rw [HN.out,HH.out]) (by rw [HH.out]; exact hlt) (by rw [HCP.out,HCQ.out]; exact of_decide_eq_false HQ.out)
         have HR:=hid hne;clear hne;go_wp2;go_ret;exact ⟨by rw [HR.out] <;> rfl,HXA.out.trans HX6.out⟩
       | true =>
         have hke:Q0n p k=s.hist.getD k []:=by rw [HCP.out,HCQ.out]; exact of_decide_eq_true HQ.out
         have HKE:=hid hke;clear hke;go_wp2;go_roundw
         case rel=>exact ⟨k + 1,by omega,by go_num,(fun j hj=>by
          rcases Nat.lt_or_ge j k with h | h
          . exact HEQ.out j h
          . have e:j=k:=by omega
            subst e; exact HKE.out),HX6.out⟩
         case measure=>simp [intOf]; omega
    . have hkI:¬ (k:Int) < n:=by omega
      have hkn:k=n:=by omega
      have hr0:Q2d s.hist p=0:=J7j (by rw [HN.out,HH.out]) (by rw [HH.out,<- hkn]; exact heq)
      have HR:=hid hr0;clear heq hr0;go_wp2;go_ret;exact ⟨by rw [HR.out] <;> rfl,hxr⟩
 . have hI:((n:Int) != (H:Int))=true:=by simp; omega
   have HR:Hid (Q2d s.hist p=2):=hid (J7f (by rw [HN.out,HH.out]; exact hnH))
   clear hnH;go_wp2;go_ret;exact ⟨by rw [HR.out] <;> rfl,HXA.out⟩
end Go.Proofs
namespace Go.Proofs
open Go.RowKit Go.Tw Go.Flow
attribute [local go_sem] Oper.semAt_some
theorem J2d.policy {s:Q0b} (hS:Q1b s) {n:Nat} {w w':World} {x:Value} (h:J2d 115 w w' x (J2l s n)):Q0w w' x (J2l s n):=by
 refine h.is (by have:=Z5n hS; rw [J3w]; omega) fun r hr=>?_
 unfold J2l at hr;obtain ⟨i,hi,rfl⟩:=List.mem_map.1 hr;have hi':=List.mem_range.1 hi;have:=Z2v hS _ (List.getElem_mem hi');show (s.hist.getD i []).length <= 4096;rw [Q0v _ hi']; omega
theorem J3t (s:Q0b) (n:Nat):Q2d s.hist (J2l s n)=0:=by
 rw [Q4h];unfold J2l;rw [List.map_map]
 apply List.ext_getElem
 . simp
 . intro i h1 h2
   simp [h2]
def J7x (s:Q0b):Bool:=decide (s.hist.length <= 9)
theorem J7g (w:World) (v:Value) (s:Q0b) (hv:Q0h w v s) (he:s.err=0) :
    Calls Tryz.prog 17 #[v] w fun e w'=>e=.returned (.bool (J7x s)) /\ Ext w w':=by
 have hS:=Q1b.of he;have hhl:=Z5n hS;have HV:=hid hv;have HERR:=hid he;have HVS:=hid hS;obtain ⟨a,b,rfl,-⟩:=hv;have ha:∃ A n c,a=.slice A n c:=by obtain ⟨_,_,e,h2⟩:=HV.out; cases e; obtain ⟨A,c,e,-⟩:=h2.ships.opened; exact ⟨A,_,c,e⟩
 have hb:∃ A n c,b=.slice A n c:=by obtain ⟨_,_,e,h2⟩:=HV.out; cases e; obtain ⟨A,c,e,-⟩:=h2.members.opened; exact ⟨A,_,c,e⟩
 obtain ⟨A1,n1,ca1,rfl⟩:=ha;obtain ⟨A2,n2,ca2,rfl⟩:=hb;clear hS he;go_enter Tryz.func17,Tryz.ntmps17;go_wp2_with fail;change Calls _ _ _ (w.alloc (.cells #[.int .i64 s.limit,.slice A1 n1 ca1,.slice A2 n2 ca2] 25)) _;obtain ⟨W,hWW,k0,HXW,eW⟩:=Q1t w 25 #[.int .i64 s.limit,.slice A1 n1 ca1,.slice A2 n2 ca2];rw [hWW];clear hWW;refine (J2q _ _ s (HV.out.ext HXW.out) HERR.out).mono ?_;rintro e wh ⟨xh,rfl,hll,hxh⟩;have hih:=J5s HVS.out hll;obtain ⟨AH,ch,rfl,-,-,-⟩:=hih.opened;have HXH:=hid (HXW.out.trans hxh);obtain ⟨H,hH⟩:∃ x,s.hist.length=x:=⟨_,rfl⟩;have HH:=hid hH;rw [hH] at hhl ⊢;clear hll hih hH hxh k0 eW
 by_cases h9:H <= 9
 . have hI:(H:Int) <= 9:=by omega
   have HD:Hid (J7x s=true):=hid (decide_eq_true (by rw [HH.out]; exact h9))
   go_wp2;go_ret;exact ⟨by rw [HD.out] <;> rfl,HXH.out⟩
 . have hI:¬ (H:Int) <= 9:=by omega
   have HD:Hid (J7x s=false):=hid (decide_eq_false (by rw [HH.out]; exact h9))
   go_wp2;go_ret;exact ⟨by rw [HD.out]; show Ending.returned (.bool (decide ((H:Int) <= 9)))=_; rw [decide_eq_false (show ¬ (H:Int) <= 9 by omega)],HXH.out⟩
end Go.Proofs
namespace Go.Proofs
open Go.RowKit Go.Tw Go.Flow
attribute [local go_sem] Oper.semAt_some
theorem J6o (w:World) (x:Int):Calls Tryz.prog 23 #[.int .i64 x] w fun e w'=>e=.returned (.int .i64 (Q0f x 0 8000)) /\ Ext w w' :=
 (J4h w x).mono fun e w' ⟨h1,h2⟩=>⟨h1,by rw [<- h2]; exact Ext.refl _⟩
theorem J2r (s:Q0b) (x:Plan):Q2d s.hist (X7b s x)=0:=Q4h.2 (by simp [X7b,Function.comp_def])
theorem J6a {s:Q0b} (hS:Q1b s) (x:Plan):Y7c (X7b s x):=by
 refine ⟨by have:=Z5n hS; unfold X7b; rw [List.length_map]; omega,fun i hi=>?_⟩
 have hm:(X7b s x)[i] ∈ X7b s x:=List.getElem_mem hi;unfold Q0n;rw [Q0v _ hi];obtain ⟨h,hh,e⟩:=List.mem_map.1 hm;rw [<- e];have:=Z2v hS h hh;show h.length <= 8;omega
structure J7y (s:Q0b) (need:Int) (F b c d:Int) (x:Option Plan):Prop where
 f:Z2w s need=F
 x:Y2s s need=x
theorem J4y {s:Q0b} {need:Int} (hF:Z2w s need=0) {x:Plan} (h:Y2s s need=some x):X9c s need=(x.closings,x.delay,0) /\ Y1g s need=X7b s x:=by
 unfold X9c Y1g; rw [hF,h]; exact ⟨rfl,rfl⟩
theorem J6j {s:Q0b} {need:Int} (hF:Z2w s need=0) (h:Y2s s need=none):X9c s need=(0,0,24) /\ Y1g s need=[]:=by
 unfold X9c Y1g; rw [hF,h]; exact ⟨rfl,rfl⟩
end Go.Proofs
namespace Go.Proofs
open Go.Tw Go.RowKit
theorem _root_.Go.RowKit.Below.ext {a b c:World} (h:Below a.heap.size a b) (k:Ext b c):Below a.heap.size a c:=(show Ext a b from h).trans k
theorem J6p {s:Q0b} (hv:Q1b s) (p:List Rul):Q2c s (Q3r s p) <= 8000:=by
 have h:∀ l:List Int,(∀ x ∈ l,0 <= x /\ x < s.members.length) -> Q2c s l <= 1000 * l.length:=by
  intro l
  induction l with
  | nil=>intro _; simp [Q2c]
  | cons x l ih =>
    intro h;have h1:=h x (by simp)
    have h2:=(hv.weights x.toNat (by omega)).2
    have h3:=ih (fun y hy=>h y (List.mem_cons_of_mem _ hy));simp only [Q2c,List.map_cons,List.sum_cons,List.length_cons] at h3 ⊢;omega
 have h1:=h _ (Q8t s p);have h2:=kept_len s p;have:=hv.some;omega
theorem J3r {s:Q0b} (hv:Q1b s):Z5c s <= 8000:=by
 obtain ⟨x,hx,e⟩:=J3x hv;rw [<- e,<- (Z5r hv.toFine hx).1];exact J6p hv _
structure J7q (s:Q0b) (need m n1 d1 n2 d2 e3:Int):Prop where
 two:(e3=24 /\ ¬ need <= m) ∨ (e3=0 /\ need <= m /\ (n2 < n1 ∨ n2=n1 /\ d2 <= d1))
 best:∀ p,need <= Q2c s (Q3r s p) -> e3=0 /\ (n2 < Q4z s p ∨ n2=Q4z s p /\ d2 <= X2t s p)
theorem J6z {s:Q0b} (hv:Q1b s) (he:s.err=0) {need:Int} (hn:Q0f need 0 8000=0) {x1:Plan} (h1:Y2s s (Z5c s)=some x1) :
    J7q s need (Z5c s) x1.closings x1.delay (X9c s need).1 (X9c s need).2.1 (X9c s need).2.2:=by
 have hF:Z2w s need=0:=by unfold Z2w; rw [he,hn]; rfl
 cases hb:Y2s s need with
 | none =>
   obtain ⟨e1,_⟩:=J6j hF hb;rw [e1];have hlt:¬ need <= Z5c s:=fun h=>by have:=(J3b hv need).2 h; rw [hb] at this; cases this
   exact ⟨.inl ⟨rfl,hlt⟩,fun p hp=>absurd (Int.le_trans hp (J5p hv.toFine p)) hlt⟩
 | some y =>
   obtain ⟨e1,_⟩:=J4y hF hb;rw [e1];have hle:need <= Z5c s:=(J3b hv need).1 (by rw [hb]; rfl)
   refine ⟨.inr ⟨rfl,hle,J6w hb h1 hle⟩,fun p hp=>⟨rfl,?_⟩⟩;obtain ⟨x,hx,h⟩:=J5x hv p hp;rw [hb] at hx;cases hx;exact h
theorem J7o {s:Q0b} (hv:Q1b s) (he:s.err=0):∃ x,Y2s s (Z5c s)=some x /\ X9c s (Z5c s)=(x.closings,x.delay,0) /\ Y1g s (Z5c s)=X7b s x /\ Q2c s (Q3r s (X7b s x))=Z5c s:=by
 obtain ⟨x,hx⟩:=Option.isSome_iff_exists.1 ((J3b hv (Z5c s)).2 (Int.le_refl _));have hF:Z2w s (Z5c s)=0:=by
  unfold Z2w;rw [he,Q5h.2 ⟨J2y,J3r hv⟩]; rfl
 obtain ⟨e1,e2⟩:=J4y hF hx;exact ⟨x,hx,e1,e2,by rw [(Z7o hv.toFine hx).2.1]; exact J6t hx⟩
theorem J5y {s:Q0b} (hv:Q1b s) (he:s.err=0):Q7n s (Z5c s)=7 /\ X1s s (Z5c s)=[]:=by
 have h:Q7n s (Z5c s)=7:=by
  have hF:Q8l s (Z5c s)=0:=by
   unfold Q8l;rw [he,Q5h.2 ⟨J2y,J3r hv⟩]; rfl
  unfold Q7n;rw [if_pos hF,if_pos (J4z hv)]
 exact ⟨h,by unfold X1s; rw [h]; rfl⟩
theorem J6b {s:Q0b} (he:s.err=0) {need:Int} (hn:Q0f need 0 8000=0):(Q7n s need=7 /\ X1s s need=[] /\ need <= Y7i s) ∨ (Q7n s need=0 /\ X1s s need=Q5b s /\ Y7i s < need):=by
 have hF:Q8l s need=0:=by unfold Q8l; rw [he,hn]; rfl
 unfold X1s Q7n;rw [if_pos hF]
 by_cases h:need <= Y7i s
 . rw [if_pos h]; exact .inl ⟨rfl,rfl,h⟩
 . rw [if_neg h]; exact .inr ⟨rfl,rfl,by omega⟩
theorem J7s {s:Q0b} (hv:Q1b s):∀ g ∈ Q5b s,0 <= g.weight /\ g.weight <= 8000:=by
 intro g hg;rw [<- Y9h] at hg;unfold Q5a at hg;obtain ⟨i,_,rfl⟩:=List.mem_map.1 hg;have hm:∀ x ∈ Q9e s i,x < s.members.length:=fun x hx=>List.mem_range.1 (List.mem_filter.1 hx).1;have h8:(Q9e s i).length <= 8:=by
  have h1:(Q9e s i).length <= (List.range s.members.length).length:=List.length_filter_le ..;rw [List.length_range] at h1;have:=hv.some; omega
 exact Y4u hv hm h8 _
theorem J4w {s:Q0b} {p:List Rul} (he:s.err=0) (hp:Q2d s.hist p=0):Q1g s p=0:=by unfold Q1g; rw [if_neg (fun h=>h he)]; exact hp
theorem J5h {s:Q0b} (hv:Q1b s) {p:List Rul} (hp:Q2d s.hist p=0):p.length <= 1000:=by
 have h:=congrArg List.length (Q4h.1 hp);rw [List.length_map] at h;have:=Z5n hv;omega
theorem J7b {s:Q0b} (hv:Q1b s) {p:List Rul} (hp:Q2d s.hist p=0):∀ k,k < p.length -> (Q0n p k).length <= 8:=fun k hk=>by
 have h:=Q4h.1 hp;have hm:p[k].classes ∈ s.hist:=by rw [<- h]; exact List.mem_map_of_mem (List.getElem_mem hk)
 have:=Z2v hv _ hm;unfold Q0n;rw [Q0v _ hk];omega
theorem J7e (w:World) (v u:Value) (s:Q0b) (p:List Rul) (hv:Q0h w v s) (hu:Q0w w u p) (hs:Q3k s) (he:s.err=0) (hp:Q2d s.hist p=0) :
    Calls Tryz.prog 33 #[v,u] w fun e w'=>∃ x,e=.returned (.tuple #[x,.int .i64 0]) /\ Q0d w' x (Q3r s p) /\ Ext w w':=by
 have h:=X6i w v u s p hv hu hs (J5h (Q1b.of he) hp);rw [J4w he hp,show Y8s s p=Q3r s p from if_pos (J4w he hp)] at h
 exact h
theorem J5m (w:World) (v u:Value) (s:Q0b) (p:List Rul) (hv:Q0h w v s) (hu:Q0w w u p) (hs:Q3k s) (he:s.err=0) (hp:Q2d s.hist p=0) :
    Calls Tryz.prog 37 #[v,u] w fun e w'=>e=.returned (.tuple #[.int .i64 (Q4z s p),.int .i64 0]) /\ Ext w w':=by
 have h:=Y0j w v u s p hv hu hs (J5h (Q1b.of he) hp);rw [J4w he hp,show X0l s p=Q4z s p from if_pos (J4w he hp)] at h
 exact h
theorem J6v (w:World) (v u:Value) (s:Q0b) (p:List Rul) (hv:Q0h w v s) (hu:Q0w w u p) (hs:Q3k s) (he:s.err=0) (hp:Q2d s.hist p=0) :
    Calls Tryz.prog 38 #[v,u] w fun e w'=>e=.returned (.tuple #[.int .i64 (X2t s p),.int .i64 0]) /\ Ext w w':=by
 have h:=Z0h w v u s p hv hu hs (J5h (Q1b.of he) hp);rw [J4w he hp,show Y7p s p=X2t s p from if_pos (J4w he hp)] at h
 exact h
theorem J6n {s:Q0b} (hv:Q1b s) (n:Nat):∀ k,k < (J2l s n).length -> (Q0n (J2l s n) k).length <= 4096:=fun k hk=>by
 have:=J7b hv (J3t s n) k hk;omega
def J5t (l:List Grp) (k:Nat):Int:=((l.take k).map Grp.weight).sum
theorem J5q {l:List Grp} {k:Nat} (h:k < l.length):J5t l (k + 1)=J5t l k + Q8d l k:=by
 unfold J5t;rw [List.take_succ_eq_append_getElem h,List.map_append,List.sum_append,Q8d,Q0v _ h];simp
theorem J6y (l:List Grp):J5t l l.length=(l.map Grp.weight).sum:=by unfold J5t; rw [List.take_length]
theorem J6r {l:List Grp} (h:∀ g ∈ l,0 <= g.weight /\ g.weight <= 8000):∀ k,k <= l.length -> 0 <= J5t l k /\ J5t l k <= 8000 * k
 | 0,_=>by simp [J5t]
 | k + 1,hk=>by
   have ih:=J6r h k (by omega)
   have hw:=h _ (List.getElem_mem (show k < l.length by omega))
   have e:Q8d l k=l[k].weight:=by unfold Q8d; rw [Q0v _ (show k < l.length by omega)]
   rw [J5q (by omega),e]
   omega
end Go.Proofs
namespace Go.Proofs
open Go.RowKit Go.Tw Go.Flow
attribute [local go_sem] Oper.semAt_some
def J7l (w:World) (x:Value) (o:Option (List Bool)):Prop:=match o with
 | none=>x=.slice none 0 0
 | some b=>Q1q w x b
theorem J7l.ext {w w':World} {x:Value} {o:Option (List Bool)} (h:J7l w x o) (hx:Ext w w'):J7l w' x o:=by
 cases o with
 | none=>exact h
 | some b=>exact Q1q.ext h hx
end Go.Proofs
namespace Go.Proofs
open Go.RowKit Go.Tw Go.Flow
attribute [local go_sem] Oper.semAt_some
theorem J2s {w:World} {o:Oper} {a:Act} (x:Operand) (k:Nat) (hop:o.op=.extract x k) {u r:Value} (h:a.eval x=u) (hr:∀ w,(Instr.extract u k).run Tryz.prog w=.ok r w):(execOp a.eval o).run Tryz.prog w=.ok (.value r) w:=by
 unfold execOp;simp only [hop,h,Sem.run_bind,hr,Result.andThen_ok,Sem.run_pure]
theorem J5k {w:World} {o:Oper} {a:Act} (x:Operand) (hop:o.op=.move x) {u:Value} (h:a.eval x=u):(execOp a.eval o).run Tryz.prog w=.ok (.value u) w:=by
 unfold execOp;simp only [hop,h,Sem.run_pure]
theorem J3o {w:World} {o:Oper} {a:Act} (x:Operand) (hop:o.op=.assign x) {u:Value} (h:a.eval x=u):(execOp a.eval o).run Tryz.prog w=.ok (.value u) w:=by
 unfold execOp;simp only [hop,h,Sem.run_pure]
theorem J7r (w:World) (x y:Value):(Instr.extract (.tuple #[x,y]) 0).run Tryz.prog w=.ok x w:=rfl
theorem J7v (w:World) (x y:Value):(Instr.extract (.tuple #[x,y]) 1).run Tryz.prog w=.ok y w:=rfl
end Go.Proofs
